/- GRingTurns -/
import Derived.Test.YtaojmbkmicjecaaGreatKG12
import Derived.Test.YtaojmbkmicjecaaGreatKGHelpO
import Derived.Deep.LoopGhost
import Derived.KernelRfl
namespace Go.Proofs.YtaojmbkmicjecaaGreat
open Go.RowKit
set_option linter.unusedVariables false
def RingTurns.j25 (x79:Int) (rec83:List Int→HSt→HSt→Int→Int→Option (Bool)) (L113:List Int) (x115:Int) (s147:HSt) (s148:HSt) (y149:Bool):Option (Bool):=(if (y149) then some (false) else rec83 L113 s147 s148 (IntKind.i64.wrap (x79+1)) x115)
def RingTurns.j24 (k:Nat) (L16:List Int) (L17:List Int) (x79:Int) (rec83:List Int→HSt→HSt→Int→Int→Option (Bool)) (L113:List Int) (x115:Int) (s128:HSt) (s129:HSt) (x130:Int) (x131:Int) (x132:Int) (x133:Int) (x134:Int) (x135:Int) (x136:Int) (x137:Int) (x138:Int) (x139:Int):Option (Bool):=(if (x139 != 0) then RingTurns.j25 x79 rec83 L113 x115 s128 s129 true else (if (x132 != (L113.length:Int)) then RingTurns.j25 x79 rec83 L113 x115 s128 s129 true else bind3 (law12_ch.m k s128 s129 L16 L17 0) fun x189 s190 s191=>bind2 (ring_All.m k s190 x189) fun L199 s200=>bind1 (help_PlainO.m k L199 L113) fun y214=>RingTurns.j25 x79 rec83 L113 x115 s200 s191 (!(y214))))
def RingTurns.j23 (k:Nat) (L16:List Int) (L17:List Int) (x79:Int) (rec83:List Int→HSt→HSt→Int→Int→Option (Bool)) (s111:HSt) (s112:HSt) (L113:List Int) (x115:Int):Option (Bool):=bind3 (law12_ch.m k s111 s112 L16 L17 0) fun x229 s230 s231=>bind2 (pChan x229 s230) fun q239 x240=>RingTurns.j24 k L16 L17 x79 rec83 L113 x115 s230 s231 q239.cap q239.closed q239.count q239.start q239.buf q239.th q239.tt q239.sh q239.st x240
def RingTurns.j27 (k:Nat) (L16:List Int) (L17:List Int) (x79:Int) (x80:Int) (rec83:List Int→HSt→HSt→Int→Int→Option (Bool)) (s323:HSt) (s332:HSt) (L359:List Int):Option (Bool):=RingTurns.j23 k L16 L17 x79 rec83 s332 s323 L359 (IntKind.i64.wrap (x80+1))
def RingTurns.j26 (K1:List Int) (k:Nat) (L16:List Int) (L17:List Int) (L75:List Int) (x79:Int) (x80:Int) (rec83:List Int→HSt→HSt→Int→Int→Option (Bool)) (s323:HSt) (x331:Int) (s332:HSt) (y341:Bool):Option (Bool):=(if (y341) then some (false) else (if (x331 == 0) then bind1 (pushM L75 (atI K1 x80)) fun L386=>RingTurns.j27 k L16 L17 x79 x80 rec83 s323 s332 L386 else RingTurns.j27 k L16 L17 x79 x80 rec83 s323 s332 L75))
def RingTurns.j29 (k:Nat) (L16:List Int) (L17:List Int) (x79:Int) (x80:Int) (rec83:List Int→HSt→HSt→Int→Int→Option (Bool)) (s427:HSt) (s437:HSt) (L464:List Int):Option (Bool):=RingTurns.j23 k L16 L17 x79 rec83 s437 s427 L464 x80
def RingTurns.j28 (k:Nat) (L16:List Int) (L17:List Int) (L75:List Int) (x79:Int) (x80:Int) (rec83:List Int→HSt→HSt→Int→Int→Option (Bool)) (s427:HSt) (x436:Int) (s437:HSt) (y446:Bool):Option (Bool):=(if (y446) then some (false) else (if (x436 == 0) then (if (inR 0 L75.length) then bind1 (dropM L75 (1:Int)) fun L486=>RingTurns.j29 k L16 L17 x79 x80 rec83 s427 s437 L486 else none) else RingTurns.j29 k L16 L17 x79 x80 rec83 s427 s437 L75))
def RingTurns.j22 (K1:List Int) (k:Nat) (x5:Int) (L16:List Int) (L17:List Int) (L75:List Int) (s77:HSt) (s78:HSt) (x79:Int) (x80:Int) (rec83:List Int→HSt→HSt→Int→Int→Option (Bool)) (y103:Bool):Option (Bool):=(if (y103) then (if (inR x80 K1.length) then bind3 (law12_ch.m k s77 s78 L16 L17 0) fun x321 s322 s323=>bind2 (ring_Put.m k s322 x321 (atI K1 x80)) fun x331 s332=>(if (!((x331 == 0) == (decide ((L75.length:Int)<x5)))) then RingTurns.j26 K1 k L16 L17 L75 x79 x80 rec83 s323 x331 s332 true else (if (x331 != 0) then RingTurns.j26 K1 k L16 L17 L75 x79 x80 rec83 s323 x331 s332 (x331 != 9) else RingTurns.j26 K1 k L16 L17 L75 x79 x80 rec83 s323 x331 s332 false)) else none) else bind3 (law12_ch.m k s77 s78 L16 L17 0) fun x425 s426 s427=>bind3 (ring_Take.m k s426 x425) fun x435 x436 s437=>(if (!((x436 == 0) == (decide ((L75.length:Int) > 0)))) then RingTurns.j28 k L16 L17 L75 x79 x80 rec83 s427 x436 s437 true else (if (x436 == 0) then (if (inR (0:Int) L75.length) then (if (x435 != (atI L75 (0:Int))) then RingTurns.j28 k L16 L17 L75 x79 x80 rec83 s427 x436 s437 true else (if (x436 != 0) then (if (x436 != 8) then RingTurns.j28 k L16 L17 L75 x79 x80 rec83 s427 x436 s437 true else RingTurns.j28 k L16 L17 L75 x79 x80 rec83 s427 x436 s437 (x435 != 0)) else RingTurns.j28 k L16 L17 L75 x79 x80 rec83 s427 x436 s437 false)) else none) else (if (x436 != 0) then (if (x436 != 8) then RingTurns.j28 k L16 L17 L75 x79 x80 rec83 s427 x436 s437 true else RingTurns.j28 k L16 L17 L75 x79 x80 rec83 s427 x436 s437 (x435 != 0)) else RingTurns.j28 k L16 L17 L75 x79 x80 rec83 s427 x436 s437 false))))
def RingTurns.j21 (K1:List Int) (K2:List Int) (k:Nat) (x5:Int) (L16:List Int) (L17:List Int) (L75:List Int) (s77:HSt) (s78:HSt) (x79:Int) (x80:Int) (rec83:List Int→HSt→HSt→Int→Int→Option (Bool)) (y92:Bool):Option (Bool):=(if (y92) then (if (inR x79 K2.length) then (if ((Int.tmod (atI K2 x79) 2) == 0) then RingTurns.j22 K1 k x5 L16 L17 L75 s77 s78 x79 x80 rec83 (decide (x80<(K1.length:Int))) else RingTurns.j22 K1 k x5 L16 L17 L75 s77 s78 x79 x80 rec83 false) else none) else some (true))
def RingTurns.l20b (K1:List Int) (K2:List Int) (k:Nat) (x5:Int) (L16:List Int) (L17:List Int) (rec83:List Int→HSt→HSt→Int→Int→Option (Bool)) (L75:List Int) (s77:HSt) (s78:HSt) (x79:Int) (x80:Int):Option (Bool):=(if (decide (x79<(K2.length:Int))) then RingTurns.j21 K1 K2 k x5 L16 L17 L75 s77 s78 x79 x80 rec83 (decide (x79<60)) else RingTurns.j21 K1 K2 k x5 L16 L17 L75 s77 s78 x79 x80 rec83 false)
def RingTurns.l20 (K1:List Int) (K2:List Int) (k:Nat) (x5:Int) (L16:List Int) (L17:List Int):Nat→List Int→HSt→HSt→Int→Int→Option (Bool)
  | 0=>fun _ _ _ _ _=>none
  | kI+1=>RingTurns.l20b K1 K2 k x5 L16 L17 (RingTurns.l20 K1 K2 k x5 L16 L17 kI)
def RingTurns.j1 (K1:List Int) (K2:List Int) (k:Nat) (x5:Int) (s14:HSt) (s15:HSt) (L16:List Int) (L17:List Int) (y51:Bool):Option (Bool):=(if (y51) then some (false) else RingTurns.l20 K1 K2 k x5 L16 L17 k [] s14 s15 0 0)
def RingTurns.m (k:Nat) (i0:Int) (K1:List Int) (K2:List Int):Option (Bool):=bind1 (some (IntKind.i64.wrap (Int.tmod (IntKind.u64.wrap i0) 4))) fun x5=>bind4 (law12_made.m k [x5] 1) fun s14 s15 L16 L17=>bind1 (law12_awake.m k ) fun y596=>(if (!(y596)) then RingTurns.j1 K1 K2 k x5 s14 s15 L16 L17 true else RingTurns.j1 K1 K2 k x5 s14 s15 L16 L17 false)
set_option maxRecDepth 100000 in
set_option maxHeartbeats 40000000 in
theorem RingTurns.ok {w0 w:World} {ps:List Piece} {k:Nat} {i0:Int} {pa1:Option Addr} {ca1:Nat} {K1:List Int} (hA1:ArgInts w0 (.slice pa1 K1.length ca1) K1) {pa2:Option Addr} {ca2:Nat} {K2:List Int} (hA2:ArgInts w0 (.slice pa2 K2.length ca2) K2) {r0:Bool} (hS:St w0 [] (ps) w) (hm:RingTurns.m k i0 K1 K2=some r0) :
    Calls Tryz.prog 3 #[nI i0,.slice pa1 K1.length ca1,.slice pa2 K2.length ca2] w fun e w'=>e=.returned (.bool r0)∧St w0 [] (ps) w':=by
 refine ev_enterL 162 [nI i0,.slice pa1 K1.length ca1,.slice pa2 K2.length ca2] Tryz.func3 rfl rfl (by simp) ?_
 intro a hF
 have hF0:Fr 162 a [(0,nI i0),(1,.slice pa1 K1.length ca1),(2,.slice pa2 K2.length ca2)]:=hF; clear hF
 unfold RingTurns.m at hm
 refine wp_seq (wp_region_lit ?_)
 refine ev_runK 1 hF0 [0,1,2] (l':=[(0,nI i0),(1,.slice pa1 K1.length ca1),(2,.slice pa2 K2.length ca2)]) (w':=w) (by kernel_rfl) ?_
 intro a2 hF1; clear hF0
 refine wpList_nil (thenN (wp_seq (wp_region_lit ?_)))
 refine ev_runs 5 hF1 (l':=[(0,nI (IntKind.i64.wrap (Int.tmod (IntKind.u64.wrap i0) 4))),(19,nI (IntKind.i64.wrap (Int.tmod (IntKind.u64.wrap i0) 4))),(18,.int .u64 (Int.tmod (IntKind.u64.wrap i0) 4)),(17,.int .u64 (IntKind.u64.wrap i0)),(16,nI i0),(1,.slice pa1 K1.length ca1),(2,.slice pa2 K2.length ca2)]) (w':=w) (by kernel_rfl) ?_
 intro a4 hF3; clear hF1
 obtain ⟨x5,hx6,hm7⟩:=bind1E hm; clear hm
 have hF8:=hF3; rw [Option.some.inj hx6] at hF8; clear hF3
 refine wpList_nil ?_
 have hF9:=hF8.keep [0,1,2]
 clear hF8
 refine thenN (wp_seq (wp_region_lit ?_))
 refine ev_runs 2 hF9 (l':=[(21,.slice (some ⟨w.heap.size,0,none⟩) 1 1),(20,nI x5),(0,nI x5),(1,.slice pa1 K1.length ca1),(2,.slice pa2 K2.length ca2)]) (w':=w.alloc (.cells #[nI x5] 3)) (by kernel_rfl) ?_
 intro a11 hF10; clear hF9
 have hS13:St w0 [] (RowP (.slice (some ⟨w.heap.size,0,none⟩) 1 1) [x5]::ps) (w.alloc (.cells #[nI x5] 3)):=St.lit hS [x5] (by unfold maxLen; simp)
 refine ev_call 14 #[.slice (some ⟨w.heap.size,0,none⟩) 1 1,nI 1] hF10 rfl rfl (by kernel_rfl) rfl (by kernel_rfl) (fun w=>by kernel_rfl) ?_
 obtain ⟨s14,s15,L16,L17,hx18,hm19⟩:=bind4E hm7; clear hm7
 refine (law12_made.ok hS13 hx18).mono ?_
 rintro _ w20 ⟨z24,z25,z26,z27,z28,z29,z30,z31,z32,z33,rfl,hS22⟩ a21 hF23; clear hF10 hS13
 have hS39:St w0 [] (RowP (.slice (some ⟨w.heap.size,0,none⟩) 1 1) [x5]::BlkP z24 32 #[nP z25 0,nP z27 0,z32,z33]::HeapP z25 z26 s14::RHeapP z27 z28 z29 z30 z31 s15::RowP (z32) L16::RowP (z33) L17::ps) w20:=hS22
 clear hS22
 obtain ⟨hl43,p40,c41,rfl,hp42⟩:=St.shape hS39 4 rfl
 obtain ⟨hl47,p44,c45,rfl,hp46⟩:=St.shape hS39 5 rfl
 refine ev_runK 1 hF23 [0,1,2,7] (l':=[(7,nP z24 0),(0,nI x5),(1,.slice pa1 K1.length ca1),(2,.slice pa2 K2.length ca2)]) (w':=w20) (by kernel_rfl) ?_
 intro a49 hF48; clear hF23
 refine wpList_nil ?_
 have hS50:=hS39.drop
 clear hS39
 refine thenN (wp_seq (wp_seq ?_))
 refine joinQ (fun aI wI=>∃ (y51:Bool),Fr 162 aI [(28,.bool (y51)),(7,nP z24 0),(0,nI x5),(1,.slice pa1 K1.length ca1),(2,.slice pa2 K2.length ca2)]∧St w0 [] (BlkP z24 32 #[nP z25 0,nP z27 0,.slice p40 L16.length c41,.slice p44 L17.length c45]::HeapP z25 z26 s14::RHeapP z27 z28 z29 z30 z31 s15::RowP (.slice p40 L16.length c41) L16::RowP (.slice p44 L17.length c45) L17::ps) wI∧RingTurns.j1 K1 K2 k x5 s14 s15 L16 L17 y51=some r0) ?_ ?_
 rotate_left
 · rintro a53 w54 ⟨y51,hF55,hS56,hm57⟩
   clear hF48 hS50 hm19
   unfold RingTurns.j1 at hm57
   refine thenN ?_
   cases hc59:(y51)
   case true =>
    rw [hc59] at hF55
    have hm60:=ifYes hc59 hm57; clear hm57
    refine ev_condT hF55 rfl rfl ?_
    refine wp_seq (wp_region_lit ?_)
    refine ev_runK 1 hF55 [6] (l':=[(6,.bool false)]) (w':=w54) (by kernel_rfl) ?_
    intro a62 hF61; clear hF55
    refine wpList_nil ?_
    have hS63:=hS56.drop.drop.drop.drop.drop
    clear hS56
    refine thenN ?_
    refine wp_ret ?_
    refine thenR ?_
    obtain rfl:=Option.some.inj hm60
    refine ev_ret hF61 [6] (.bool false) rfl rfl rfl ?_
    exact ⟨rfl,hS63⟩
   rw [hc59] at hF55
   have hm65:=ifNot hc59 hm57; clear hm57
   refine ev_condF hF55 rfl rfl ?_
   refine wp_skip ?_
   have hF66:=hF55.keep [0,1,2,7]
   clear hF55
   refine thenN (wp_seq (wp_region_lit ?_))
   have hS68:St w0 [] (OffP (.slice none 0 0) []::BlkP z24 32 #[nP z25 0,nP z27 0,.slice p40 L16.length c41,.slice p44 L17.length c45]::HeapP z25 z26 s14::RHeapP z27 z28 z29 z30 z31 s15::RowP (.slice p40 L16.length c41) L16::RowP (.slice p44 L17.length c45) L17::ps) w54:=St.nilO hS56
   clear hS56
   refine ev_runs 1 hF66 (l':=[(8,.slice none 0 0),(7,nP z24 0),(0,nI x5),(1,.slice pa1 K1.length ca1),(2,.slice pa2 K2.length ca2)]) (w':=w54) (by kernel_rfl) ?_
   intro a70 hF69; clear hF66
   refine wpList_nil (thenN (wp_seq (wp_region_lit ?_)))
   refine ev_runs 1 hF69 (l':=[(9,nI 0),(8,.slice none 0 0),(7,nP z24 0),(0,nI x5),(1,.slice pa1 K1.length ca1),(2,.slice pa2 K2.length ca2)]) (w':=w54) (by kernel_rfl) ?_
   intro a72 hF71; clear hF69
   refine wpList_nil (thenN (wp_seq (wp_seq (wp_region_lit ?_))))
   refine ev_runs 1 hF71 (l':=[(10,nI 0),(9,nI 0),(8,.slice none 0 0),(7,nP z24 0),(0,nI x5),(1,.slice pa1 K1.length ca1),(2,.slice pa2 K2.length ca2)]) (w':=w54) (by kernel_rfl) ?_
   intro a74 hF73; clear hF71
   refine wpList_nil (thenN ?_)
   refine wp_block ?_
   refine wp_loop_ghost (fun kI aI wI=>∃ (v76:Value) (L75:List Int) (s77:HSt) (s78:HSt) (x79:Int) (x80:Int),Fr 162 aI [(10,nI x79),(9,nI x80),(8,v76),(7,nP z24 0),(0,nI x5),(1,.slice pa1 K1.length ca1),(2,.slice pa2 K2.length ca2)]∧St w0 [] (OffP (v76) L75::BlkP z24 32 #[nP z25 0,nP z27 0,.slice p40 L16.length c41,.slice p44 L17.length c45]::HeapP z25 z26 s77::RHeapP z27 z28 z29 z30 z31 s78::RowP (.slice p40 L16.length c41) L16::RowP (.slice p44 L17.length c45) L17::ps) wI∧RingTurns.l20 K1 K2 k x5 L16 L17 kI L75 s77 s78 x79 x80=some r0) k ⟨.slice none 0 0,[],s14,s15,0,0,hF73,hS68,hm65⟩ ?_
   rintro k81 a82 w83 ⟨v76,L75,s77,s78,x79,x80,hF84,hS85,hm86⟩
   clear hF73 hS68 hm65
   rcases k81 with _ | k81
   · cases hm86
   have hm87:RingTurns.l20b K1 K2 k x5 L16 L17 (RingTurns.l20 K1 K2 k x5 L16 L17 k81) L75 s77 s78 x79 x80=some r0:=hm86
   clear hm86
   unfold RingTurns.l20b at hm87
   obtain ⟨hl91,p88,c89,rfl,hp90⟩:=St.shapeO hS85 0 rfl
   refine wp_seq (wp_seq ?_)
   refine joinQ (fun aI wI=>∃ (y92:Bool),Fr 162 aI [(36,.bool (y92)),(10,nI x79),(9,nI x80),(8,.slice p88 L75.length c89),(7,nP z24 0),(0,nI x5),(1,.slice pa1 K1.length ca1),(2,.slice pa2 K2.length ca2)]∧St w0 [] (OffP (.slice p88 L75.length c89) L75::BlkP z24 32 #[nP z25 0,nP z27 0,.slice p40 L16.length c41,.slice p44 L17.length c45]::HeapP z25 z26 s77::RHeapP z27 z28 z29 z30 z31 s78::RowP (.slice p40 L16.length c41) L16::RowP (.slice p44 L17.length c45) L17::ps) wI∧RingTurns.j21 K1 K2 k x5 L16 L17 L75 s77 s78 x79 x80 (RingTurns.l20 K1 K2 k x5 L16 L17 k81) y92=some r0) ?_ ?_
   rotate_left
   · rintro a94 w95 ⟨y92,hF96,hS97,hm98⟩
     clear hF84 hS85 hm87
     unfold RingTurns.j21 at hm98
     refine thenN ?_
     cases hc100:(y92)
     case true =>
      rw [hc100] at hF96
      have hm101:=ifYes hc100 hm98; clear hm98
      refine ev_condT hF96 rfl rfl ?_
      refine wp_skip ?_
      have hF102:=hF96.keep [0,1,2,7,8,9,10]
      clear hF96
      refine thenN (wp_seq ?_)
      refine wp_block ?_
      refine wp_seq (wp_seq ?_)
      refine joinQ (fun aI wI=>∃ (y103:Bool),Fr 162 aI [(50,.bool (y103)),(10,nI x79),(9,nI x80),(8,.slice p88 L75.length c89),(7,nP z24 0),(0,nI x5),(1,.slice pa1 K1.length ca1),(2,.slice pa2 K2.length ca2)]∧St w0 [] (OffP (.slice p88 L75.length c89) L75::BlkP z24 32 #[nP z25 0,nP z27 0,.slice p40 L16.length c41,.slice p44 L17.length c45]::HeapP z25 z26 s77::RHeapP z27 z28 z29 z30 z31 s78::RowP (.slice p40 L16.length c41) L16::RowP (.slice p44 L17.length c45) L17::ps) wI∧RingTurns.j22 K1 k x5 L16 L17 L75 s77 s78 x79 x80 (RingTurns.l20 K1 K2 k x5 L16 L17 k81) y103=some r0) ?_ ?_
      rotate_left
      · rintro a105 w106 ⟨y103,hF107,hS108,hm109⟩
        clear hF102 hS97 hm101
        unfold RingTurns.j22 at hm109
        refine thenN ?_
        refine joinQ (fun aI wI=>∃ (s111:HSt) (s112:HSt) (v114:Value) (L113:List Int) (x115:Int),Fr 162 aI [(10,nI x79),(9,nI x115),(8,v114),(7,nP z24 0),(0,nI x5),(1,.slice pa1 K1.length ca1),(2,.slice pa2 K2.length ca2)]∧St w0 [] (HeapP z25 z26 s111::BlkP z24 32 #[nP z25 0,nP z27 0,.slice p40 L16.length c41,.slice p44 L17.length c45]::RHeapP z27 z28 z29 z30 z31 s112::RowP (.slice p40 L16.length c41) L16::RowP (.slice p44 L17.length c45) L17::OffP (v114) L113::ps) wI∧RingTurns.j23 k L16 L17 x79 (RingTurns.l20 K1 K2 k x5 L16 L17 k81) s111 s112 L113 x115=some r0) ?_ ?_
        rotate_left
        · rintro a117 w118 ⟨s111,s112,v114,L113,x115,hF119,hS120,hm121⟩
          clear hF107 hS108 hm109
          unfold RingTurns.j23 at hm121
          obtain ⟨hl126,p123,c124,rfl,hp125⟩:=St.shapeO hS120 5 rfl
          refine thenN (wp_seq ?_)
          refine joinQ (fun aI wI=>∃ (g127:Nat) (s128:HSt) (s129:HSt) (x130:Int) (x131:Int) (x132:Int) (x133:Int) (x134:Int) (x135:Int) (x136:Int) (x137:Int) (x138:Int) (x139:Int),Fr 162 aI [(15,nI x139),(14,nP g127 0),(10,nI x79),(9,nI x115),(8,.slice p123 L113.length c124),(7,nP z24 0),(0,nI x5),(1,.slice pa1 K1.length ca1),(2,.slice pa2 K2.length ca2)]∧St w0 [] (BlkP g127 37 #[nI x130,nI x131,nI x132,nI x133,nI x134,nI x135,nI x136,nI x137,nI x138]::HeapP z25 z26 s128::BlkP z24 32 #[nP z25 0,nP z27 0,.slice p40 L16.length c41,.slice p44 L17.length c45]::RHeapP z27 z28 z29 z30 z31 s129::RowP (.slice p40 L16.length c41) L16::RowP (.slice p44 L17.length c45) L17::OffP (.slice p123 L113.length c124) L113::ps) wI∧RingTurns.j24 k L16 L17 x79 (RingTurns.l20 K1 K2 k x5 L16 L17 k81) L113 x115 s128 s129 x130 x131 x132 x133 x134 x135 x136 x137 x138 x139=some r0) ?_ ?_
          rotate_left
          · rintro a141 w142 ⟨g127,s128,s129,x130,x131,x132,x133,x134,x135,x136,x137,x138,x139,hF143,hS144,hm145⟩
            clear hF119 hS120 hm121
            unfold RingTurns.j24 at hm145
            refine thenN (wp_seq ?_)
            refine joinQ (fun aI wI=>∃ (s147:HSt) (s148:HSt) (y149:Bool),Fr 162 aI [(161,.bool (y149)),(10,nI x79),(9,nI x115),(8,.slice p123 L113.length c124),(7,nP z24 0),(0,nI x5),(1,.slice pa1 K1.length ca1),(2,.slice pa2 K2.length ca2)]∧St w0 [] (BlkP z24 32 #[nP z25 0,nP z27 0,.slice p40 L16.length c41,.slice p44 L17.length c45]::HeapP z25 z26 s147::RHeapP z27 z28 z29 z30 z31 s148::RowP (.slice p40 L16.length c41) L16::RowP (.slice p44 L17.length c45) L17::OffP (.slice p123 L113.length c124) L113::ps) wI∧RingTurns.j25 x79 (RingTurns.l20 K1 K2 k x5 L16 L17 k81) L113 x115 s147 s148 y149=some r0) ?_ ?_
            rotate_left
            · rintro a151 w152 ⟨s147,s148,y149,hF153,hS154,hm155⟩
              clear hF143 hS144 hm145
              unfold RingTurns.j25 at hm155
              refine thenN ?_
              cases hc157:(y149)
              case true =>
               rw [hc157] at hF153
               have hm158:=ifYes hc157 hm155; clear hm155
               refine ev_condT hF153 rfl rfl ?_
               refine wp_seq (wp_region_lit ?_)
               refine ev_runK 1 hF153 [6] (l':=[(6,.bool false)]) (w':=w152) (by kernel_rfl) ?_
               intro a160 hF159; clear hF153
               refine wpList_nil ?_
               have hS161:=hS154.drop.drop.drop.drop.drop.drop
               clear hS154
               refine thenN ?_
               refine wp_ret ?_
               refine blockR ?_
               refine thenR (thenR ?_)
               refine blockR ?_
               refine thenR ?_
               obtain rfl:=Option.some.inj hm158
               refine ev_ret hF159 [6] (.bool false) rfl rfl rfl ?_
               exact ⟨rfl,hS161⟩
              rw [hc157] at hF153
              have hm163:=ifNot hc157 hm155; clear hm155
              refine ev_condF hF153 rfl rfl ?_
              refine wp_skip ?_
              have hF164:=hF153.keep [0,1,2,7,8,9,10]
              clear hF153
              refine blockN ?_
              refine thenN (wp_region_lit ?_)
              refine ev_runK 3 hF164 [0,1,2,7,8,9,10] (l':=[(10,nI (IntKind.i64.wrap (x79+1))),(9,nI x115),(8,.slice p123 L113.length c124),(7,nP z24 0),(0,nI x5),(1,.slice pa1 K1.length ca1),(2,.slice pa2 K2.length ca2)]) (w':=w152) (by kernel_rfl) ?_
              intro a166 hF165; clear hF164
              refine wpList_nil ?_
              have hS167:=hS154.pick4.pick4.pick4.pick4.pick4.pick5
              clear hS154
              exact thenN ⟨k81,Nat.lt_succ_self _,.slice p123 L113.length c124,L113,s147,s148,IntKind.i64.wrap (x79+1),x115,hF165,hS167,hm163⟩
            · skip
              have hS168:=hS144.pick2.pick1
              clear hS144
              have hS169:=hS168.drew; clear hS168
              refine any_start (fun wS=>∃ qs,St w0 [] (BlkP g127 37 #[nI x130,nI x131,nI x132,nI x133,nI x134,nI x135,nI x136,nI x137,nI x138]::BlkP z24 32 #[nP z25 0,nP z27 0,.slice p40 L16.length c41,.slice p44 L17.length c45]::qs) wS) 21 #[false,false,false,false,false,false,false,false,false,false,false,false,false,false,false,false,false,false,false,false,false] (by kernel_rfl) (by kernel_rfl) (by kernel_rfl) ?_
              refine any_many 3 [(0,some (nI x139)),(1,some (.bool (x139 != 0))),(2,some (.bool (x139 != 0)))] [0,1,2,7,8,9,10,14,143,144,145,146,147,148,149,150,151,152,153,154,155,156,157,158,159,160,161] #[true,true,true,false,false,false,false,false,false,false,false,false,false,false,false,false,false,false,false,false,false] (by rfl) hF143 (by kernel_rfl) (by kernel_rfl) (by exact ⟨fun wS hw=>by kernel_rfl,fun wS hw=>by kernel_rfl,fun wS hw=>by kernel_rfl,trivial⟩) (fun _ _ _ _ _ h=>h) ⟨_,hS169⟩ (l':=[(143,.bool (x139 != 0)),(14,nP g127 0),(10,nI x79),(9,nI x115),(8,.slice p123 L113.length c124),(7,nP z24 0),(0,nI x5),(1,.slice pa1 K1.length ca1),(2,.slice pa2 K2.length ca2)]) (by kernel_rfl) ?_
              intro a171 hF170; clear hF143
              cases hc172:(x139 != 0)
              case true =>
               rw [hc172] at hF170
               have hm173:=ifYes hc172 hm145; clear hm145
               refine any_many 18 [(3,none),(4,none),(5,none),(6,none),(7,none),(8,some (.bool true)),(9,some (.bool true)),(10,none),(11,none),(12,none),(13,none),(14,none),(15,none),(16,none),(17,none),(18,none),(19,none),(20,some (.bool true))] [0,1,2,7,8,9,10,161] #[true,true,true,true,true,true,true,true,true,true,true,true,true,true,true,true,true,true,true,true,true] (by rfl) hF170 (by kernel_rfl) (by kernel_rfl) (by exact (And.intro trivial (And.intro trivial (And.intro trivial (And.intro trivial (And.intro trivial (And.intro (fun wS hw=>by kernel_rfl) (And.intro (fun wS hw=>by kernel_rfl) (And.intro trivial (And.intro trivial (And.intro trivial (And.intro trivial (And.intro trivial (And.intro trivial (And.intro trivial (And.intro trivial (And.intro trivial (And.intro trivial (And.intro (fun wS hw=>by kernel_rfl) trivial))))))))))))))))))) (fun _ _ _ _ _ h=>h) ⟨_,hS169⟩ (l':=[(161,.bool true),(10,nI x79),(9,nI x115),(8,.slice p123 L113.length c124),(7,nP z24 0),(0,nI x5),(1,.slice pa1 K1.length ca1),(2,.slice pa2 K2.length ca2)]) (by kernel_rfl) ?_
               intro a175 hF174; clear hF170
               refine any_done (by kernel_rfl) ?_
               have hS176:=hS169.drop
               clear hS169
               exact thenN ⟨s128,s129,true,hF174,hS176,hm173⟩
              rw [hc172] at hF170
              have hm177:=ifNot hc172 hm145; clear hm145
              refine any_many 7 [(3,some (nP g127 2)),(4,some (nI x132)),(5,some (.slice p123 L113.length c124)),(6,some (nI ((L113.length:Int)))),(7,some (.bool (x132 != (L113.length:Int)))),(8,some (.bool (x132 != (L113.length:Int)))),(9,some (.bool (x132 != (L113.length:Int))))] [0,1,2,7,8,9,10,150,151,152,153,154,155,156,157,158,159,160,161] #[true,true,true,true,true,true,true,true,true,true,false,false,false,false,false,false,false,false,false,false,false] (by rfl) hF170 (by kernel_rfl) (by kernel_rfl) (by exact ⟨fun wS hw=>by kernel_rfl,fun wS hw=>hw.elim fun qs hw=>run_loadV rfl rfl (run_loadS rfl rfl (hw.cell 0 rfl 2 rfl)),fun wS hw=>by kernel_rfl,fun wS hw=>by kernel_rfl,fun wS hw=>by kernel_rfl,fun wS hw=>by kernel_rfl,fun wS hw=>by kernel_rfl,trivial⟩) (fun _ _ _ _ _ h=>h) ⟨_,hS169⟩ (l':=[(150,.bool (x132 != (L113.length:Int))),(10,nI x79),(9,nI x115),(8,.slice p123 L113.length c124),(7,nP z24 0),(0,nI x5),(1,.slice pa1 K1.length ca1),(2,.slice pa2 K2.length ca2)]) (by kernel_rfl) ?_
              intro a179 hF178; clear hF170
              cases hc180:(x132 != (L113.length:Int))
              case true =>
               rw [hc180] at hF178
               have hm181:=ifYes hc180 hm177; clear hm177
               refine any_many 11 [(10,none),(11,none),(12,none),(13,none),(14,none),(15,none),(16,none),(17,none),(18,none),(19,none),(20,some (.bool true))] [0,1,2,7,8,9,10,161] #[true,true,true,true,true,true,true,true,true,true,true,true,true,true,true,true,true,true,true,true,true] (by rfl) hF178 (by kernel_rfl) (by kernel_rfl) (by exact (And.intro trivial (And.intro trivial (And.intro trivial (And.intro trivial (And.intro trivial (And.intro trivial (And.intro trivial (And.intro trivial (And.intro trivial (And.intro trivial (And.intro (fun wS hw=>by kernel_rfl) trivial)))))))))))) (fun _ _ _ _ _ h=>h) ⟨_,hS169⟩ (l':=[(161,.bool true),(10,nI x79),(9,nI x115),(8,.slice p123 L113.length c124),(7,nP z24 0),(0,nI x5),(1,.slice pa1 K1.length ca1),(2,.slice pa2 K2.length ca2)]) (by kernel_rfl) ?_
               intro a183 hF182; clear hF178
               refine any_done (by kernel_rfl) ?_
               have hS184:=hS169.drop
               clear hS169
               exact thenN ⟨s128,s129,true,hF182,hS184,hm181⟩
              rw [hc180] at hF178
              have hm185:=ifNot hc180 hm177; clear hm177
              refine any_many 6 [(10,some (nP z24 0)),(11,some (nP z24 0)),(12,some (nP z24 0)),(13,some (nP z25 0)),(14,some (nP z24 0)),(17,some (.slice p123 L113.length c124))] [0,1,2,7,8,9,10,150,154,155,156,157,158,159,160,161] #[true,true,true,true,true,true,true,true,true,true,true,true,true,true,true,false,false,true,false,false,false] (by rfl) hF178 (by kernel_rfl) (by kernel_rfl) (by exact ⟨fun wS hw=>by kernel_rfl,fun wS hw=>by kernel_rfl,fun wS hw=>by kernel_rfl,fun wS hw=>hw.elim fun qs hw=>run_loadV rfl rfl (run_loadS rfl rfl (hw.cell 1 rfl 0 rfl)),fun wS hw=>by kernel_rfl,fun wS hw=>by kernel_rfl,trivial⟩) (fun _ _ _ _ _ h=>h) ⟨_,hS169⟩ (l':=[(158,.slice p123 L113.length c124),(155,nP z24 0),(154,nP z25 0),(150,.bool false),(10,nI x79),(9,nI x115),(8,.slice p123 L113.length c124),(7,nP z24 0),(0,nI x5),(1,.slice pa1 K1.length ca1),(2,.slice pa2 K2.length ca2)]) (by kernel_rfl) ?_
              intro a187 hF186; clear hF178
              have hS188:=hS169.pick5.pick5.pick5.pick5.pick5
              clear hS169
              refine any_call 15 #[true,true,true,true,true,true,true,true,true,true,true,true,true,true,true,true,false,true,false,false,false] 17 #[nP z24 0,nI 0] hF186 rfl (by kernel_rfl) rfl rfl (by kernel_rfl) rfl (by kernel_rfl) (fun w=>by kernel_rfl) (by kernel_rfl) ?_
              obtain ⟨x189,s190,s191,hx192,hm193⟩:=bind3E hm185; clear hm185
              refine (law12_ch.ok hS188 hx192).mono ?_
              rintro _ w194 ⟨rfl,hS196⟩; clear hS188
              refine ⟨⟨_,hS196.pick5⟩,?_⟩
              intro a195 hF197; clear hF186
              have hS198:=hS196.pick1
              clear hS196
              refine any_call 16 #[true,true,true,true,true,true,true,true,true,true,true,true,true,true,true,true,true,true,false,false,false] 21 #[nP z25 0,nI x189] hF197 rfl (by kernel_rfl) rfl rfl (by kernel_rfl) rfl (by kernel_rfl) (fun w=>by kernel_rfl) (by kernel_rfl) ?_
              obtain ⟨L199,s200,hx201,hm202⟩:=bind2E hm193; clear hm193
              refine (ring_All.ok hS198 hx201).mono ?_
              rintro _ w203 ⟨z207,rfl,hS205⟩; clear hS198
              obtain ⟨hl212,p209,c210,rfl,hp211⟩:=St.shape hS205 1 rfl
              refine ⟨⟨_,hS205.pick2.pick6⟩,?_⟩
              intro a204 hF206; clear hF197
              have hS213:=hS205.pick7.pick2
              clear hS205
              refine any_call 18 #[true,true,true,true,true,true,true,true,true,true,true,true,true,true,true,true,true,true,true,false,false] 20 #[.slice p209 L199.length c210,.slice p123 L113.length c124] hF206 rfl (by kernel_rfl) rfl rfl (by kernel_rfl) rfl (by kernel_rfl) (fun w=>by kernel_rfl) (by kernel_rfl) ?_
              obtain ⟨y214,hx215,hm216⟩:=bind1E hm202; clear hm202
              refine (help_PlainO.ok hS213 hx215).mono ?_
              rintro _ w217 ⟨rfl,hS219⟩; clear hS213
              refine ⟨⟨_,hS219.pick3.pick7⟩,?_⟩
              intro a218 hF220; clear hF206
              refine any_many 2 [(19,some (.bool (!(y214)))),(20,some (.bool (!(y214))))] [0,1,2,7,8,9,10,161] #[true,true,true,true,true,true,true,true,true,true,true,true,true,true,true,true,true,true,true,true,true] (by rfl) hF220 (by kernel_rfl) (by kernel_rfl) (by exact ⟨fun wS hw=>by kernel_rfl,fun wS hw=>by kernel_rfl,trivial⟩) (fun _ _ _ _ _ h=>h) ⟨_,hS219.pick3.pick7⟩ (l':=[(161,.bool (!(y214))),(10,nI x79),(9,nI x115),(8,.slice p123 L113.length c124),(7,nP z24 0),(0,nI x5),(1,.slice pa1 K1.length ca1),(2,.slice pa2 K2.length ca2)]) (by kernel_rfl) ?_
              intro a222 hF221; clear hF220
              refine any_done (by kernel_rfl) ?_
              have hS223:=hS219.drop.pick6.drop
              clear hS219
              have hS224:=hS223.pick5.pick5.pick5.pick4.pick5
              clear hS223
              exact thenN ⟨s200,s191,!(y214),hF221,hS224,hm216⟩
          · skip
            have hS225:=hS120.pick1
            clear hS120
            have hS226:=hS225.drew; clear hS225
            refine any_start (fun wS=>∃ qs,St w0 [] (BlkP z24 32 #[nP z25 0,nP z27 0,.slice p40 L16.length c41,.slice p44 L17.length c45]::qs) wS) 13 #[false,false,false,false,false,false,false,false,false,false,false,false,false] (by kernel_rfl) (by kernel_rfl) (by kernel_rfl) ?_
            refine any_many 5 [(0,some (nP z24 0)),(1,some (nP z24 0)),(2,some (nP z24 0)),(3,some (nP z25 0)),(4,some (nP z24 0))] [0,1,2,7,8,9,10,14,15,131,135,136,137,138,139,140] #[true,true,true,true,true,false,false,false,false,false,false,false,false] (by rfl) hF119 (by kernel_rfl) (by kernel_rfl) (by exact ⟨fun wS hw=>by kernel_rfl,fun wS hw=>by kernel_rfl,fun wS hw=>by kernel_rfl,fun wS hw=>hw.elim fun qs hw=>run_loadV rfl rfl (run_loadS rfl rfl (hw.cell 0 rfl 0 rfl)),fun wS hw=>by kernel_rfl,trivial⟩) (fun _ _ _ _ _ h=>h) ⟨_,hS226⟩ (l':=[(136,nP z24 0),(135,nP z25 0),(10,nI x79),(9,nI x115),(8,.slice p123 L113.length c124),(7,nP z24 0),(0,nI x5),(1,.slice pa1 K1.length ca1),(2,.slice pa2 K2.length ca2)]) (by kernel_rfl) ?_
            intro a228 hF227; clear hF119
            refine any_two 5 10 (by kernel_rfl) ?_ ?_
            · skip
              refine op_call 5 #[true,true,true,true,true,true,false,false,false,false,false,false,false] 17 #[nP z24 0,nI 0] hF227 rfl rfl rfl (by kernel_rfl) rfl (by kernel_rfl) (fun w=>by kernel_rfl) (by kernel_rfl) ?_
              obtain ⟨x229,s230,s231,hx232,hm233⟩:=bind3E hm121; clear hm121
              refine (law12_ch.ok hS226 hx232).mono ?_
              rintro _ w234 ⟨rfl,hS236⟩; clear hS226
              refine ⟨⟨_,hS236⟩,?_⟩
              intro a235 hF237; clear hF227
              refine any_two 6 10 (by kernel_rfl) ?_ ?_
              · skip
                have hS238:=hS236.pick1
                clear hS236
                refine op_call 6 #[true,true,true,true,true,true,true,false,false,false,false,false,false] 19 #[nP z25 0,nI x229] hF237 rfl rfl rfl (by kernel_rfl) rfl (by kernel_rfl) (fun w=>by kernel_rfl) (by kernel_rfl) ?_
                obtain ⟨q239,x240,hx241,hm242⟩:=bind2E hm233; clear hm233
                refine (p_Chan hS238 hx241).mono ?_
                rintro _ w243 ⟨rfl,hS245⟩; clear hS238
                refine ⟨⟨_,hS245.pick1⟩,?_⟩
                intro a244 hF246; clear hF237
                refine any_many 3 [(7,some (.tuple #[.agg #[nI (q239.cap),nI (q239.closed),nI (q239.count),nI (q239.start),nI (q239.buf),nI (q239.th),nI (q239.tt),nI (q239.sh),nI (q239.st)],nI x240])),(8,some (.agg #[nI (q239.cap),nI (q239.closed),nI (q239.count),nI (q239.start),nI (q239.buf),nI (q239.th),nI (q239.tt),nI (q239.sh),nI (q239.st)])),(9,some (nI x240))] [0,1,2,7,8,9,10,14,15,139,140] #[true,true,true,true,true,true,true,true,true,true,false,false,false] (by rfl) hF246 (by kernel_rfl) (by kernel_rfl) (by exact ⟨fun wS hw=>by kernel_rfl,fun wS hw=>by kernel_rfl,fun wS hw=>by kernel_rfl,trivial⟩) (fun _ _ _ _ _ h=>h) ⟨_,hS245.pick1⟩ (l':=[(140,nI x240),(139,.agg #[nI (q239.cap),nI (q239.closed),nI (q239.count),nI (q239.start),nI (q239.buf),nI (q239.th),nI (q239.tt),nI (q239.sh),nI (q239.st)]),(10,nI x79),(9,nI x115),(8,.slice p123 L113.length c124),(7,nP z24 0),(0,nI x5),(1,.slice pa1 K1.length ca1),(2,.slice pa2 K2.length ca2)]) (by kernel_rfl) ?_
                intro a248 hF247; clear hF246
                refine any_one 10 (by kernel_rfl) ?_
                have hS249:St w0 [] (BlkP (w243.heap.size) 37 #[nI 0,nI 0,nI 0,nI 0,nI 0,nI 0,nI 0,nI 0,nI 0]::HeapP z25 z26 s230::BlkP z24 32 #[nP z25 0,nP z27 0,.slice p40 L16.length c41,.slice p44 L17.length c45]::RHeapP z27 z28 z29 z30 z31 s231::RowP (.slice p40 L16.length c41) L16::RowP (.slice p44 L17.length c45) L17::OffP (.slice p123 L113.length c124) L113::ps) (w243.alloc (.cells #[nI 0,nI 0,nI 0,nI 0,nI 0,nI 0,nI 0,nI 0,nI 0] 37)):=St.new hS245 #[nI 0,nI 0,nI 0,nI 0,nI 0,nI 0,nI 0,nI 0,nI 0] 37
                clear hS245
                refine op_step 10 #[true,true,true,true,true,true,true,true,true,true,true,false,false] (nB w243) (w243.alloc (.cells #[nI 0,nI 0,nI 0,nI 0,nI 0,nI 0,nI 0,nI 0,nI 0] 37)) hF247 rfl (by kernel_rfl) rfl (by kernel_rfl) (by kernel_rfl) (l':=[(14,nB w243),(140,nI x240),(139,.agg #[nI (q239.cap),nI (q239.closed),nI (q239.count),nI (q239.start),nI (q239.buf),nI (q239.th),nI (q239.tt),nI (q239.sh),nI (q239.st)]),(10,nI x79),(9,nI x115),(8,.slice p123 L113.length c124),(7,nP z24 0),(0,nI x5),(1,.slice pa1 K1.length ca1),(2,.slice pa2 K2.length ca2)]) (by kernel_rfl) ⟨_,hS249.pick2⟩ (by kernel_rfl) ?_
                intro a251 hF250; clear hF247
                refine any_one 11 (by kernel_rfl) ?_
                refine op_store 11 #[true,true,true,true,true,true,true,true,true,true,true,true,false] (.agg #[nI (q239.cap),nI (q239.closed),nI (q239.count),nI (q239.start),nI (q239.buf),nI (q239.th),nI (q239.tt),nI (q239.sh),nI (q239.st)]) #[nI (q239.cap),nI (q239.closed),nI (q239.count),nI (q239.start),nI (q239.buf),nI (q239.th),nI (q239.tt),nI (q239.sh),nI (q239.st)] hF250 rfl (by kernel_rfl) rfl rfl rfl rfl (by kernel_rfl) hS249 (by kernel_rfl) (by kernel_rfl) (by kernel_rfl) (l':=[(14,nB w243),(140,nI x240),(139,.agg #[nI (q239.cap),nI (q239.closed),nI (q239.count),nI (q239.start),nI (q239.buf),nI (q239.th),nI (q239.tt),nI (q239.sh),nI (q239.st)]),(10,nI x79),(9,nI x115),(8,.slice p123 L113.length c124),(7,nP z24 0),(0,nI x5),(1,.slice pa1 K1.length ca1),(2,.slice pa2 K2.length ca2)]) (by kernel_rfl) (by kernel_rfl) ?_
                intro w252 a253 hS254 hF255; clear hF250 hS249
                refine ⟨⟨_,hS254.pick2⟩,?_⟩
                refine any_many 1 [(12,some (nI x240))] [0,1,2,7,8,9,10,14,15] #[true,true,true,true,true,true,true,true,true,true,true,true,true] (by rfl) hF255 (by kernel_rfl) (by kernel_rfl) (by exact ⟨fun wS hw=>by kernel_rfl,trivial⟩) (fun _ _ _ _ _ h=>h) ⟨_,hS254.pick2⟩ (l':=[(15,nI x240),(14,nB w243),(10,nI x79),(9,nI x115),(8,.slice p123 L113.length c124),(7,nP z24 0),(0,nI x5),(1,.slice pa1 K1.length ca1),(2,.slice pa2 K2.length ca2)]) (by kernel_rfl) ?_
                intro a257 hF256; clear hF255
                refine any_done (by kernel_rfl) ?_
                exact thenN ⟨(w243.heap.size),s230,s231,q239.cap,q239.closed,q239.count,q239.start,q239.buf,q239.th,q239.tt,q239.sh,q239.st,x240,hF256,hS254,hm242⟩
              · skip
                have hS258:St w0 [] (BlkP (w234.heap.size) 37 #[nI 0,nI 0,nI 0,nI 0,nI 0,nI 0,nI 0,nI 0,nI 0]::BlkP z24 32 #[nP z25 0,nP z27 0,.slice p40 L16.length c41,.slice p44 L17.length c45]::HeapP z25 z26 s230::RHeapP z27 z28 z29 z30 z31 s231::RowP (.slice p40 L16.length c41) L16::RowP (.slice p44 L17.length c45) L17::OffP (.slice p123 L113.length c124) L113::ps) (w234.alloc (.cells #[nI 0,nI 0,nI 0,nI 0,nI 0,nI 0,nI 0,nI 0,nI 0] 37)):=St.new hS236 #[nI 0,nI 0,nI 0,nI 0,nI 0,nI 0,nI 0,nI 0,nI 0] 37
                clear hS236
                refine op_step 10 #[true,true,true,true,true,true,false,false,false,false,true,false,false] (nB w234) (w234.alloc (.cells #[nI 0,nI 0,nI 0,nI 0,nI 0,nI 0,nI 0,nI 0,nI 0] 37)) hF237 rfl (by kernel_rfl) rfl (by kernel_rfl) (by kernel_rfl) (l':=[(14,nB w234),(137,nI x229),(136,nP z24 0),(135,nP z25 0),(10,nI x79),(9,nI x115),(8,.slice p123 L113.length c124),(7,nP z24 0),(0,nI x5),(1,.slice pa1 K1.length ca1),(2,.slice pa2 K2.length ca2)]) (by kernel_rfl) ⟨_,hS258.pick1⟩ (by kernel_rfl) ?_
                intro a260 hF259; clear hF237
                have hS261:=hS258.pick2
                clear hS258
                refine any_call 6 #[true,true,true,true,true,true,true,false,false,false,true,false,false] 19 #[nP z25 0,nI x229] hF259 rfl (by kernel_rfl) rfl rfl (by kernel_rfl) rfl (by kernel_rfl) (fun w=>by kernel_rfl) (by kernel_rfl) ?_
                obtain ⟨q262,x263,hx264,hm265⟩:=bind2E hm233; clear hm233
                refine (p_Chan hS261 hx264).mono ?_
                rintro _ w266 ⟨rfl,hS268⟩; clear hS261
                refine ⟨⟨_,hS268.pick2⟩,?_⟩
                intro a267 hF269; clear hF259
                refine any_many 3 [(7,some (.tuple #[.agg #[nI (q262.cap),nI (q262.closed),nI (q262.count),nI (q262.start),nI (q262.buf),nI (q262.th),nI (q262.tt),nI (q262.sh),nI (q262.st)],nI x263])),(8,some (.agg #[nI (q262.cap),nI (q262.closed),nI (q262.count),nI (q262.start),nI (q262.buf),nI (q262.th),nI (q262.tt),nI (q262.sh),nI (q262.st)])),(9,some (nI x263))] [0,1,2,7,8,9,10,14,15,139,140] #[true,true,true,true,true,true,true,true,true,true,true,false,false] (by rfl) hF269 (by kernel_rfl) (by kernel_rfl) (by exact ⟨fun wS hw=>by kernel_rfl,fun wS hw=>by kernel_rfl,fun wS hw=>by kernel_rfl,trivial⟩) (fun _ _ _ _ _ h=>h) ⟨_,hS268.pick2⟩ (l':=[(140,nI x263),(139,.agg #[nI (q262.cap),nI (q262.closed),nI (q262.count),nI (q262.start),nI (q262.buf),nI (q262.th),nI (q262.tt),nI (q262.sh),nI (q262.st)]),(14,nB w234),(10,nI x79),(9,nI x115),(8,.slice p123 L113.length c124),(7,nP z24 0),(0,nI x5),(1,.slice pa1 K1.length ca1),(2,.slice pa2 K2.length ca2)]) (by kernel_rfl) ?_
                intro a271 hF270; clear hF269
                refine any_one 11 (by kernel_rfl) ?_
                have hS272:=hS268.pick1
                clear hS268
                refine op_store 11 #[true,true,true,true,true,true,true,true,true,true,true,true,false] (.agg #[nI (q262.cap),nI (q262.closed),nI (q262.count),nI (q262.start),nI (q262.buf),nI (q262.th),nI (q262.tt),nI (q262.sh),nI (q262.st)]) #[nI (q262.cap),nI (q262.closed),nI (q262.count),nI (q262.start),nI (q262.buf),nI (q262.th),nI (q262.tt),nI (q262.sh),nI (q262.st)] hF270 rfl (by kernel_rfl) rfl rfl rfl rfl (by kernel_rfl) hS272 (by kernel_rfl) (by kernel_rfl) (by kernel_rfl) (l':=[(140,nI x263),(139,.agg #[nI (q262.cap),nI (q262.closed),nI (q262.count),nI (q262.start),nI (q262.buf),nI (q262.th),nI (q262.tt),nI (q262.sh),nI (q262.st)]),(14,nB w234),(10,nI x79),(9,nI x115),(8,.slice p123 L113.length c124),(7,nP z24 0),(0,nI x5),(1,.slice pa1 K1.length ca1),(2,.slice pa2 K2.length ca2)]) (by kernel_rfl) (by kernel_rfl) ?_
                intro w273 a274 hS275 hF276; clear hF270 hS272
                refine ⟨⟨_,hS275.pick2⟩,?_⟩
                refine any_many 1 [(12,some (nI x263))] [0,1,2,7,8,9,10,14,15] #[true,true,true,true,true,true,true,true,true,true,true,true,true] (by rfl) hF276 (by kernel_rfl) (by kernel_rfl) (by exact ⟨fun wS hw=>by kernel_rfl,trivial⟩) (fun _ _ _ _ _ h=>h) ⟨_,hS275.pick2⟩ (l':=[(15,nI x263),(14,nB w234),(10,nI x79),(9,nI x115),(8,.slice p123 L113.length c124),(7,nP z24 0),(0,nI x5),(1,.slice pa1 K1.length ca1),(2,.slice pa2 K2.length ca2)]) (by kernel_rfl) ?_
                intro a278 hF277; clear hF276
                refine any_done (by kernel_rfl) ?_
                exact thenN ⟨(w234.heap.size),s230,s231,q262.cap,q262.closed,q262.count,q262.start,q262.buf,q262.th,q262.tt,q262.sh,q262.st,x263,hF277,hS275,hm265⟩
            · skip
              have hS279:St w0 [] (BlkP ((w118.drew).heap.size) 37 #[nI 0,nI 0,nI 0,nI 0,nI 0,nI 0,nI 0,nI 0,nI 0]::BlkP z24 32 #[nP z25 0,nP z27 0,.slice p40 L16.length c41,.slice p44 L17.length c45]::HeapP z25 z26 s111::RHeapP z27 z28 z29 z30 z31 s112::RowP (.slice p40 L16.length c41) L16::RowP (.slice p44 L17.length c45) L17::OffP (.slice p123 L113.length c124) L113::ps) ((w118.drew).alloc (.cells #[nI 0,nI 0,nI 0,nI 0,nI 0,nI 0,nI 0,nI 0,nI 0] 37)):=St.new hS226 #[nI 0,nI 0,nI 0,nI 0,nI 0,nI 0,nI 0,nI 0,nI 0] 37
              clear hS226
              refine op_step 10 #[true,true,true,true,true,false,false,false,false,false,true,false,false] (nB (w118.drew)) ((w118.drew).alloc (.cells #[nI 0,nI 0,nI 0,nI 0,nI 0,nI 0,nI 0,nI 0,nI 0] 37)) hF227 rfl (by kernel_rfl) rfl (by kernel_rfl) (by kernel_rfl) (l':=[(14,nB (w118.drew)),(136,nP z24 0),(135,nP z25 0),(10,nI x79),(9,nI x115),(8,.slice p123 L113.length c124),(7,nP z24 0),(0,nI x5),(1,.slice pa1 K1.length ca1),(2,.slice pa2 K2.length ca2)]) (by kernel_rfl) ⟨_,hS279.pick1⟩ (by kernel_rfl) ?_
              intro a281 hF280; clear hF227
              have hS282:=hS279.pick5.pick5.pick5.pick5.pick5
              clear hS279
              refine any_call 5 #[true,true,true,true,true,true,false,false,false,false,true,false,false] 17 #[nP z24 0,nI 0] hF280 rfl (by kernel_rfl) rfl rfl (by kernel_rfl) rfl (by kernel_rfl) (fun w=>by kernel_rfl) (by kernel_rfl) ?_
              obtain ⟨x283,s284,s285,hx286,hm287⟩:=bind3E hm121; clear hm121
              refine (law12_ch.ok hS282 hx286).mono ?_
              rintro _ w288 ⟨rfl,hS290⟩; clear hS282
              refine ⟨⟨_,hS290⟩,?_⟩
              intro a289 hF291; clear hF280
              have hS292:=hS290.pick1
              clear hS290
              refine any_call 6 #[true,true,true,true,true,true,true,false,false,false,true,false,false] 19 #[nP z25 0,nI x283] hF291 rfl (by kernel_rfl) rfl rfl (by kernel_rfl) rfl (by kernel_rfl) (fun w=>by kernel_rfl) (by kernel_rfl) ?_
              obtain ⟨q293,x294,hx295,hm296⟩:=bind2E hm287; clear hm287
              refine (p_Chan hS292 hx295).mono ?_
              rintro _ w297 ⟨rfl,hS299⟩; clear hS292
              refine ⟨⟨_,hS299.pick1⟩,?_⟩
              intro a298 hF300; clear hF291
              refine any_many 3 [(7,some (.tuple #[.agg #[nI (q293.cap),nI (q293.closed),nI (q293.count),nI (q293.start),nI (q293.buf),nI (q293.th),nI (q293.tt),nI (q293.sh),nI (q293.st)],nI x294])),(8,some (.agg #[nI (q293.cap),nI (q293.closed),nI (q293.count),nI (q293.start),nI (q293.buf),nI (q293.th),nI (q293.tt),nI (q293.sh),nI (q293.st)])),(9,some (nI x294))] [0,1,2,7,8,9,10,14,15,139,140] #[true,true,true,true,true,true,true,true,true,true,true,false,false] (by rfl) hF300 (by kernel_rfl) (by kernel_rfl) (by exact ⟨fun wS hw=>by kernel_rfl,fun wS hw=>by kernel_rfl,fun wS hw=>by kernel_rfl,trivial⟩) (fun _ _ _ _ _ h=>h) ⟨_,hS299.pick1⟩ (l':=[(140,nI x294),(139,.agg #[nI (q293.cap),nI (q293.closed),nI (q293.count),nI (q293.start),nI (q293.buf),nI (q293.th),nI (q293.tt),nI (q293.sh),nI (q293.st)]),(14,nB (w118.drew)),(10,nI x79),(9,nI x115),(8,.slice p123 L113.length c124),(7,nP z24 0),(0,nI x5),(1,.slice pa1 K1.length ca1),(2,.slice pa2 K2.length ca2)]) (by kernel_rfl) ?_
              intro a302 hF301; clear hF300
              refine any_one 11 (by kernel_rfl) ?_
              have hS303:=hS299.pick5
              clear hS299
              refine op_store 11 #[true,true,true,true,true,true,true,true,true,true,true,true,false] (.agg #[nI (q293.cap),nI (q293.closed),nI (q293.count),nI (q293.start),nI (q293.buf),nI (q293.th),nI (q293.tt),nI (q293.sh),nI (q293.st)]) #[nI (q293.cap),nI (q293.closed),nI (q293.count),nI (q293.start),nI (q293.buf),nI (q293.th),nI (q293.tt),nI (q293.sh),nI (q293.st)] hF301 rfl (by kernel_rfl) rfl rfl rfl rfl (by kernel_rfl) hS303 (by kernel_rfl) (by kernel_rfl) (by kernel_rfl) (l':=[(140,nI x294),(139,.agg #[nI (q293.cap),nI (q293.closed),nI (q293.count),nI (q293.start),nI (q293.buf),nI (q293.th),nI (q293.tt),nI (q293.sh),nI (q293.st)]),(14,nB (w118.drew)),(10,nI x79),(9,nI x115),(8,.slice p123 L113.length c124),(7,nP z24 0),(0,nI x5),(1,.slice pa1 K1.length ca1),(2,.slice pa2 K2.length ca2)]) (by kernel_rfl) (by kernel_rfl) ?_
              intro w304 a305 hS306 hF307; clear hF301 hS303
              refine ⟨⟨_,hS306.pick2⟩,?_⟩
              refine any_many 1 [(12,some (nI x294))] [0,1,2,7,8,9,10,14,15] #[true,true,true,true,true,true,true,true,true,true,true,true,true] (by rfl) hF307 (by kernel_rfl) (by kernel_rfl) (by exact ⟨fun wS hw=>by kernel_rfl,trivial⟩) (fun _ _ _ _ _ h=>h) ⟨_,hS306.pick2⟩ (l':=[(15,nI x294),(14,nB (w118.drew)),(10,nI x79),(9,nI x115),(8,.slice p123 L113.length c124),(7,nP z24 0),(0,nI x5),(1,.slice pa1 K1.length ca1),(2,.slice pa2 K2.length ca2)]) (by kernel_rfl) ?_
              intro a309 hF308; clear hF307
              refine any_done (by kernel_rfl) ?_
              exact thenN ⟨((w118.drew).heap.size),s284,s285,q293.cap,q293.closed,q293.count,q293.start,q293.buf,q293.th,q293.tt,q293.sh,q293.st,x294,hF308,hS306,hm296⟩
        · skip
          cases hc310:(y103)
          case true =>
           rw [hc310] at hF107
           have hm311:=ifYes hc310 hm109; clear hm109
           refine ev_condT hF107 rfl rfl ?_
           refine wp_seq ?_
           obtain ⟨hc312,hm313⟩:=ifTE hm311; clear hm311
           obtain ⟨b314,o315,rfl⟩:=argK hA1 hc312
           have hS316:=hS108.pick1
           clear hS108
           have hS317:=hS316.drew; clear hS316
           refine any_start (fun wS=>∃ qs,St w0 [] (BlkP z24 32 #[nP z25 0,nP z27 0,.slice p40 L16.length c41,.slice p44 L17.length c45]::qs) wS) 12 #[false,false,false,false,false,false,false,false,false,false,false,false] (by kernel_rfl) (by kernel_rfl) (by kernel_rfl) ?_
           refine any_many 9 [(0,some (nP z24 0)),(1,some (nP z24 0)),(2,some (nP z24 0)),(3,some (nP z25 0)),(4,some (nP z24 0)),(6,some (.slice (some ⟨b314,o315,none⟩) K1.length ca1)),(7,some (nI x80)),(8,some (nP b314 ((o315+x80.toNat)))),(9,some (nI (atI K1 x80)))] [0,1,2,7,8,9,10,11,54,55,56,60,61] #[true,true,true,true,true,false,true,true,true,true,false,false] (by rfl) hF107 (by kernel_rfl) (by kernel_rfl) (by exact ⟨fun wS hw=>by kernel_rfl,fun wS hw=>by kernel_rfl,fun wS hw=>by kernel_rfl,fun wS hw=>hw.elim fun qs hw=>run_loadV rfl rfl (run_loadS rfl rfl (hw.cell 0 rfl 0 rfl)),fun wS hw=>by kernel_rfl,fun wS hw=>by kernel_rfl,fun wS hw=>by kernel_rfl,fun wS hw=>run_idxO rfl rfl rfl rfl rfl (inR_spec hc312).1 (inR_spec hc312).2 _,fun wS hw=>run_load1 rfl rfl rfl (hw.elim fun qs hw=>argAt hA1 hw hc312),trivial⟩) (fun _ _ _ _ _ h=>h) ⟨_,hS317⟩ (l':=[(60,nI (atI K1 x80)),(55,nP z24 0),(54,nP z25 0),(10,nI x79),(9,nI x80),(8,.slice p88 L75.length c89),(7,nP z24 0),(0,nI x5),(1,.slice (some ⟨b314,o315,none⟩) K1.length ca1),(2,.slice pa2 K2.length ca2)]) (by kernel_rfl) ?_
           intro a319 hF318; clear hF107
           have hS320:=hS317.pick5.pick5.pick5.pick5.pick4
           clear hS317
           refine any_call 5 #[true,true,true,true,true,true,true,true,true,true,false,false] 17 #[nP z24 0,nI 0] hF318 rfl (by kernel_rfl) rfl rfl (by kernel_rfl) rfl (by kernel_rfl) (fun w=>by kernel_rfl) (by kernel_rfl) ?_
           obtain ⟨x321,s322,s323,hx324,hm325⟩:=bind3E hm313; clear hm313
           refine (law12_ch.ok hS320 hx324).mono ?_
           rintro _ w326 ⟨rfl,hS328⟩; clear hS320
           refine ⟨⟨_,hS328⟩,?_⟩
           intro a327 hF329; clear hF318
           have hS330:=hS328.pick1
           clear hS328
           refine any_call 10 #[true,true,true,true,true,true,true,true,true,true,true,false] 16 #[nP z25 0,nI x321,nI (atI K1 x80)] hF329 rfl (by kernel_rfl) rfl rfl (by kernel_rfl) rfl (by kernel_rfl) (fun w=>by kernel_rfl) (by kernel_rfl) ?_
           obtain ⟨x331,s332,hx333,hm334⟩:=bind2E hm325; clear hm325
           refine (ring_Put.ok hS330 hx333).mono ?_
           rintro _ w335 ⟨rfl,hS337⟩; clear hS330
           refine ⟨⟨_,hS337.pick1⟩,?_⟩
           intro a336 hF338; clear hF329
           refine any_many 1 [(11,some (nI x331))] [0,1,2,7,8,9,10,11] #[true,true,true,true,true,true,true,true,true,true,true,true] (by rfl) hF338 (by kernel_rfl) (by kernel_rfl) (by exact ⟨fun wS hw=>by kernel_rfl,trivial⟩) (fun _ _ _ _ _ h=>h) ⟨_,hS337.pick1⟩ (l':=[(11,nI x331),(10,nI x79),(9,nI x80),(8,.slice p88 L75.length c89),(7,nP z24 0),(0,nI x5),(1,.slice (some ⟨b314,o315,none⟩) K1.length ca1),(2,.slice pa2 K2.length ca2)]) (by kernel_rfl) ?_
           intro a340 hF339; clear hF338
           refine any_done (by kernel_rfl) ?_
           refine thenN (wp_seq (wp_seq ?_))
           refine joinQ (fun aI wI=>∃ (y341:Bool),Fr 162 aI [(76,.bool (y341)),(11,nI x331),(10,nI x79),(9,nI x80),(8,.slice p88 L75.length c89),(7,nP z24 0),(0,nI x5),(1,.slice (some ⟨b314,o315,none⟩) K1.length ca1),(2,.slice pa2 K2.length ca2)]∧St w0 [] (HeapP z25 z26 s332::BlkP z24 32 #[nP z25 0,nP z27 0,.slice p40 L16.length c41,.slice p44 L17.length c45]::RHeapP z27 z28 z29 z30 z31 s323::RowP (.slice p40 L16.length c41) L16::RowP (.slice p44 L17.length c45) L17::OffP (.slice p88 L75.length c89) L75::ps) wI∧RingTurns.j26 K1 k L16 L17 L75 x79 x80 (RingTurns.l20 K1 K2 k x5 L16 L17 k81) s323 x331 s332 y341=some r0) ?_ ?_
           rotate_left
           · rintro a343 w344 ⟨y341,hF345,hS346,hm347⟩
             clear hF339 hS337 hm334
             unfold RingTurns.j26 at hm347
             refine thenN ?_
             cases hc349:(y341)
             case true =>
              rw [hc349] at hF345
              have hm350:=ifYes hc349 hm347; clear hm347
              refine ev_condT hF345 rfl rfl ?_
              refine wp_seq (wp_region_lit ?_)
              refine ev_runK 1 hF345 [6] (l':=[(6,.bool false)]) (w':=w344) (by kernel_rfl) ?_
              intro a352 hF351; clear hF345
              refine wpList_nil ?_
              have hS353:=hS346.drop.drop.drop.drop.drop.drop
              clear hS346
              refine thenN ?_
              refine wp_ret ?_
              refine thenR (thenR (thenR ?_))
              refine blockR ?_
              refine thenR (thenR ?_)
              refine blockR ?_
              refine thenR ?_
              obtain rfl:=Option.some.inj hm350
              refine ev_ret hF351 [6] (.bool false) rfl rfl rfl ?_
              exact ⟨rfl,hS353⟩
             rw [hc349] at hF345
             have hm355:=ifNot hc349 hm347; clear hm347
             refine ev_condF hF345 rfl rfl ?_
             refine wp_skip ?_
             have hF356:=hF345.keep [0,1,2,7,8,9,10,11]
             clear hF345
             refine thenN (wp_seq (wp_seq (wp_region_lit ?_)))
             refine ev_runK 2 hF356 [0,1,2,7,8,9,10,78] (l':=[(78,.bool (x331 == 0)),(10,nI x79),(9,nI x80),(8,.slice p88 L75.length c89),(7,nP z24 0),(0,nI x5),(1,.slice (some ⟨b314,o315,none⟩) K1.length ca1),(2,.slice pa2 K2.length ca2)]) (w':=w344) (by kernel_rfl) ?_
             intro a358 hF357; clear hF356
             refine wpList_nil (thenN ?_)
             refine joinQ (fun aI wI=>∃ (v360:Value) (L359:List Int),Fr 162 aI [(10,nI x79),(9,nI x80),(8,v360),(7,nP z24 0),(0,nI x5),(1,.slice (some ⟨b314,o315,none⟩) K1.length ca1),(2,.slice pa2 K2.length ca2)]∧St w0 [] (HeapP z25 z26 s332::BlkP z24 32 #[nP z25 0,nP z27 0,.slice p40 L16.length c41,.slice p44 L17.length c45]::RHeapP z27 z28 z29 z30 z31 s323::RowP (.slice p40 L16.length c41) L16::RowP (.slice p44 L17.length c45) L17::OffP (v360) L359::ps) wI∧RingTurns.j27 k L16 L17 x79 x80 (RingTurns.l20 K1 K2 k x5 L16 L17 k81) s323 s332 L359=some r0) ?_ ?_
             rotate_left
             · rintro a362 w363 ⟨v360,L359,hF364,hS365,hm366⟩
               clear hF357 hS346 hm355
               unfold RingTurns.j27 at hm366
               obtain ⟨hl371,p368,c369,rfl,hp370⟩:=St.shapeO hS365 5 rfl
               refine thenN (wp_region_lit ?_)
               refine ev_runK 3 hF364 [0,1,2,7,8,9,10] (l':=[(9,nI (IntKind.i64.wrap (x80+1))),(10,nI x79),(8,.slice p368 L359.length c369),(7,nP z24 0),(0,nI x5),(1,.slice (some ⟨b314,o315,none⟩) K1.length ca1),(2,.slice pa2 K2.length ca2)]) (w':=w363) (by kernel_rfl) ?_
               intro a373 hF372; clear hF364
               refine wpList_nil ?_
               have hF374:Fr 162 a373 [(10,nI x79),(9,nI (IntKind.i64.wrap (x80+1))),(8,.slice p368 L359.length c369),(7,nP z24 0),(0,nI x5),(1,.slice (some ⟨b314,o315,none⟩) K1.length ca1),(2,.slice pa2 K2.length ca2)]:=Fr.re hF372 (by kernel_rfl)
               clear hF372
               exact thenN ⟨s332,s323,.slice p368 L359.length c369,L359,IntKind.i64.wrap (x80+1),hF374,hS365,hm366⟩
             · skip
               cases hc375:(x331 == 0)
               case true =>
                rw [hc375] at hF357
                have hm376:=ifYes hc375 hm355; clear hm355
                refine ev_condT hF357 rfl rfl ?_
                refine wp_region_lit ?_
                refine ev_runs 3 hF357 (l':=[(81,nI x80),(80,.slice (some ⟨b314,o315,none⟩) K1.length ca1),(79,.slice p88 L75.length c89),(78,.bool true),(10,nI x79),(9,nI x80),(8,.slice p88 L75.length c89),(7,nP z24 0),(0,nI x5),(1,.slice (some ⟨b314,o315,none⟩) K1.length ca1),(2,.slice pa2 K2.length ca2)]) (w':=w344) (by kernel_rfl) ?_
                intro a378 hF377; clear hF357
                refine ev_one (nP b314 ((o315+x80.toNat))) w344 hF377 (by kernel_rfl) rfl (by kernel_rfl) (run_idxO rfl rfl rfl rfl rfl (inR_spec hc312).1 (inR_spec hc312).2 _) (l':=[(82,nP b314 ((o315+x80.toNat))),(81,nI x80),(80,.slice (some ⟨b314,o315,none⟩) K1.length ca1),(79,.slice p88 L75.length c89),(78,.bool true),(10,nI x79),(9,nI x80),(8,.slice p88 L75.length c89),(7,nP z24 0),(0,nI x5),(1,.slice (some ⟨b314,o315,none⟩) K1.length ca1),(2,.slice pa2 K2.length ca2)]) (by kernel_rfl) ?_
                intro a380 hF379; clear hF377
                refine ev_one (nI (atI K1 x80)) w344 hF379 (by kernel_rfl) rfl (by kernel_rfl) (run_load1 rfl rfl rfl (argAt hA1 hS346 hc312)) (l':=[(83,nI (atI K1 x80)),(82,nP b314 ((o315+x80.toNat))),(81,nI x80),(80,.slice (some ⟨b314,o315,none⟩) K1.length ca1),(79,.slice p88 L75.length c89),(78,.bool true),(10,nI x79),(9,nI x80),(8,.slice p88 L75.length c89),(7,nP z24 0),(0,nI x5),(1,.slice (some ⟨b314,o315,none⟩) K1.length ca1),(2,.slice pa2 K2.length ca2)]) (by kernel_rfl) ?_
                intro a382 hF381; clear hF379
                refine ev_runs 1 hF381 (l':=[(84,.slice (some ⟨w344.heap.size,0,none⟩) 1 1),(83,nI (atI K1 x80)),(82,nP b314 ((o315+x80.toNat))),(81,nI x80),(80,.slice (some ⟨b314,o315,none⟩) K1.length ca1),(79,.slice p88 L75.length c89),(78,.bool true),(10,nI x79),(9,nI x80),(8,.slice p88 L75.length c89),(7,nP z24 0),(0,nI x5),(1,.slice (some ⟨b314,o315,none⟩) K1.length ca1),(2,.slice pa2 K2.length ca2)]) (w':=w344.alloc (.cells #[nI (atI K1 x80)] 3)) (by kernel_rfl) ?_
                intro a384 hF383; clear hF381
                have hS385:=hS346.pick5
                clear hS346
                obtain ⟨L386,hx387,hm388⟩:=bind1E hm376; clear hm376
                refine ev_pushO 22 rfl 85 (.tmp 79) (.tmp 84) hF383 rfl rfl rfl rfl rfl rfl rfl rfl hS385 hx387 ?_
                intro g389 c390 w391 a392 hS393 hp395 hF394; clear hF383 hS385
                have hF396:=hF394.keep [0,1,2,7,9,10,78,80,81,82,83,84,85]; clear hF394
                refine ev_runK 1 hF396 [0,1,2,7,8,9,10] (l':=[(8,.slice g389 L386.length c390),(10,nI x79),(9,nI x80),(7,nP z24 0),(0,nI x5),(1,.slice (some ⟨b314,o315,none⟩) K1.length ca1),(2,.slice pa2 K2.length ca2)]) (w':=w391) (by kernel_rfl) ?_
                intro a398 hF397; clear hF396
                refine wpList_nil ?_
                have hF399:Fr 162 a398 [(10,nI x79),(9,nI x80),(8,.slice g389 L386.length c390),(7,nP z24 0),(0,nI x5),(1,.slice (some ⟨b314,o315,none⟩) K1.length ca1),(2,.slice pa2 K2.length ca2)]:=Fr.re hF397 (by kernel_rfl)
                clear hF397
                have hS400:=hS393.pick5.pick5.pick5.pick5.pick5
                clear hS393
                exact thenN ⟨.slice g389 L386.length c390,L386,hF399,hS400,hm388⟩
               rw [hc375] at hF357
               have hm401:=ifNot hc375 hm355; clear hm355
               refine ev_condF hF357 rfl rfl ?_
               refine wp_skip ?_
               have hF402:=hF357.keep [0,1,2,7,8,9,10]
               clear hF357
               exact thenN ⟨.slice p88 L75.length c89,L75,hF402,hS346,hm401⟩
           · skip
             refine wp_region_lit ?_
             refine ev_runs 8 hF339 (l':=[(69,.bool (!((x331 == 0) == (decide ((L75.length:Int)<x5))))),(68,.bool (!((x331 == 0) == (decide ((L75.length:Int)<x5))))),(67,.bool (decide ((L75.length:Int)<x5))),(66,nI x5),(65,nI ((L75.length:Int))),(64,.slice p88 L75.length c89),(63,.bool (x331 == 0)),(62,nI x331),(11,nI x331),(10,nI x79),(9,nI x80),(8,.slice p88 L75.length c89),(7,nP z24 0),(0,nI x5),(1,.slice (some ⟨b314,o315,none⟩) K1.length ca1),(2,.slice pa2 K2.length ca2)]) (w':=w335) (by kernel_rfl) ?_
             intro a404 hF403; clear hF339
             cases hc405:(!((x331 == 0) == (decide ((L75.length:Int)<x5))))
             case true =>
              rw [hc405] at hF403
              have hm406:=ifYes hc405 hm334; clear hm334
              refine ev_runK 7 hF403 [0,1,2,7,8,9,10,11,76] (l':=[(76,.bool true),(11,nI x331),(10,nI x79),(9,nI x80),(8,.slice p88 L75.length c89),(7,nP z24 0),(0,nI x5),(1,.slice (some ⟨b314,o315,none⟩) K1.length ca1),(2,.slice pa2 K2.length ca2)]) (w':=w335) (by kernel_rfl) ?_
              intro a408 hF407; clear hF403
              refine wpList_nil ?_
              exact thenN ⟨true,hF407,hS337,hm406⟩
             rw [hc405] at hF403
             have hm409:=ifNot hc405 hm334; clear hm334
             refine ev_runs 3 hF403 (l':=[(72,.bool (x331 != 0)),(71,.bool (x331 != 0)),(70,nI x331),(69,.bool false),(68,.bool false),(67,.bool (decide ((L75.length:Int)<x5))),(66,nI x5),(65,nI ((L75.length:Int))),(64,.slice p88 L75.length c89),(63,.bool (x331 == 0)),(62,nI x331),(11,nI x331),(10,nI x79),(9,nI x80),(8,.slice p88 L75.length c89),(7,nP z24 0),(0,nI x5),(1,.slice (some ⟨b314,o315,none⟩) K1.length ca1),(2,.slice pa2 K2.length ca2)]) (w':=w335) (by kernel_rfl) ?_
             intro a411 hF410; clear hF403
             cases hc412:(x331 != 0)
             case true =>
              rw [hc412] at hF410
              have hm413:=ifYes hc412 hm409; clear hm409
              refine ev_runK 4 hF410 [0,1,2,7,8,9,10,11,76] (l':=[(76,.bool (x331 != 9)),(11,nI x331),(10,nI x79),(9,nI x80),(8,.slice p88 L75.length c89),(7,nP z24 0),(0,nI x5),(1,.slice (some ⟨b314,o315,none⟩) K1.length ca1),(2,.slice pa2 K2.length ca2)]) (w':=w335) (by kernel_rfl) ?_
              intro a415 hF414; clear hF410
              refine wpList_nil ?_
              exact thenN ⟨x331 != 9,hF414,hS337,hm413⟩
             rw [hc412] at hF410
             have hm416:=ifNot hc412 hm409; clear hm409
             refine ev_runK 4 hF410 [0,1,2,7,8,9,10,11,76] (l':=[(76,.bool false),(11,nI x331),(10,nI x79),(9,nI x80),(8,.slice p88 L75.length c89),(7,nP z24 0),(0,nI x5),(1,.slice (some ⟨b314,o315,none⟩) K1.length ca1),(2,.slice pa2 K2.length ca2)]) (w':=w335) (by kernel_rfl) ?_
             intro a418 hF417; clear hF410
             refine wpList_nil ?_
             exact thenN ⟨false,hF417,hS337,hm416⟩
          rw [hc310] at hF107
          have hm419:=ifNot hc310 hm109; clear hm109
          refine ev_condF hF107 rfl rfl ?_
          refine wp_seq ?_
          have hS420:=hS108.pick1
          clear hS108
          have hS421:=hS420.drew; clear hS420
          refine any_start (fun wS=>∃ qs,St w0 [] (BlkP z24 32 #[nP z25 0,nP z27 0,.slice p40 L16.length c41,.slice p44 L17.length c45]::qs) wS) 12 #[false,false,false,false,false,false,false,false,false,false,false,false] (by kernel_rfl) (by kernel_rfl) (by kernel_rfl) ?_
          refine any_many 5 [(0,some (nP z24 0)),(1,some (nP z24 0)),(2,some (nP z24 0)),(3,some (nP z25 0)),(4,some (nP z24 0))] [0,1,2,7,8,9,10,12,13,88,92,93,94,95,96,97] #[true,true,true,true,true,false,false,false,false,false,false,false] (by rfl) hF107 (by kernel_rfl) (by kernel_rfl) (by exact ⟨fun wS hw=>by kernel_rfl,fun wS hw=>by kernel_rfl,fun wS hw=>by kernel_rfl,fun wS hw=>hw.elim fun qs hw=>run_loadV rfl rfl (run_loadS rfl rfl (hw.cell 0 rfl 0 rfl)),fun wS hw=>by kernel_rfl,trivial⟩) (fun _ _ _ _ _ h=>h) ⟨_,hS421⟩ (l':=[(93,nP z24 0),(92,nP z25 0),(10,nI x79),(9,nI x80),(8,.slice p88 L75.length c89),(7,nP z24 0),(0,nI x5),(1,.slice pa1 K1.length ca1),(2,.slice pa2 K2.length ca2)]) (by kernel_rfl) ?_
          intro a423 hF422; clear hF107
          have hS424:=hS421.pick5.pick5.pick5.pick5.pick4
          clear hS421
          refine any_call 5 #[true,true,true,true,true,true,false,false,false,false,false,false] 17 #[nP z24 0,nI 0] hF422 rfl (by kernel_rfl) rfl rfl (by kernel_rfl) rfl (by kernel_rfl) (fun w=>by kernel_rfl) (by kernel_rfl) ?_
          obtain ⟨x425,s426,s427,hx428,hm429⟩:=bind3E hm419; clear hm419
          refine (law12_ch.ok hS424 hx428).mono ?_
          rintro _ w430 ⟨rfl,hS432⟩; clear hS424
          refine ⟨⟨_,hS432⟩,?_⟩
          intro a431 hF433; clear hF422
          have hS434:=hS432.pick1
          clear hS432
          refine any_call 6 #[true,true,true,true,true,true,true,false,false,false,false,false] 18 #[nP z25 0,nI x425] hF433 rfl (by kernel_rfl) rfl rfl (by kernel_rfl) rfl (by kernel_rfl) (fun w=>by kernel_rfl) (by kernel_rfl) ?_
          obtain ⟨x435,x436,s437,hx438,hm439⟩:=bind3E hm429; clear hm429
          refine (ring_Take.ok hS434 hx438).mono ?_
          rintro _ w440 ⟨rfl,hS442⟩; clear hS434
          refine ⟨⟨_,hS442.pick1⟩,?_⟩
          intro a441 hF443; clear hF433
          refine any_many 5 [(7,some (.tuple #[nI x435,nI x436])),(8,some (nI x435)),(9,some (nI x436)),(10,some (nI x435)),(11,some (nI x436))] [0,1,2,7,8,9,10,12,13] #[true,true,true,true,true,true,true,true,true,true,true,true] (by rfl) hF443 (by kernel_rfl) (by kernel_rfl) (by exact ⟨fun wS hw=>by kernel_rfl,fun wS hw=>by kernel_rfl,fun wS hw=>by kernel_rfl,fun wS hw=>by kernel_rfl,fun wS hw=>by kernel_rfl,trivial⟩) (fun _ _ _ _ _ h=>h) ⟨_,hS442.pick1⟩ (l':=[(13,nI x436),(12,nI x435),(10,nI x79),(9,nI x80),(8,.slice p88 L75.length c89),(7,nP z24 0),(0,nI x5),(1,.slice pa1 K1.length ca1),(2,.slice pa2 K2.length ca2)]) (by kernel_rfl) ?_
          intro a445 hF444; clear hF443
          refine any_done (by kernel_rfl) ?_
          refine thenN (wp_seq (wp_seq ?_))
          refine joinQ (fun aI wI=>∃ (y446:Bool),Fr 162 aI [(126,.bool (y446)),(13,nI x436),(10,nI x79),(9,nI x80),(8,.slice p88 L75.length c89),(7,nP z24 0),(0,nI x5),(1,.slice pa1 K1.length ca1),(2,.slice pa2 K2.length ca2)]∧St w0 [] (HeapP z25 z26 s437::BlkP z24 32 #[nP z25 0,nP z27 0,.slice p40 L16.length c41,.slice p44 L17.length c45]::RHeapP z27 z28 z29 z30 z31 s427::RowP (.slice p40 L16.length c41) L16::RowP (.slice p44 L17.length c45) L17::OffP (.slice p88 L75.length c89) L75::ps) wI∧RingTurns.j28 k L16 L17 L75 x79 x80 (RingTurns.l20 K1 K2 k x5 L16 L17 k81) s427 x436 s437 y446=some r0) ?_ ?_
          rotate_left
          · rintro a448 w449 ⟨y446,hF450,hS451,hm452⟩
            clear hF444 hS442 hm439
            unfold RingTurns.j28 at hm452
            refine thenN ?_
            cases hc454:(y446)
            case true =>
             rw [hc454] at hF450
             have hm455:=ifYes hc454 hm452; clear hm452
             refine ev_condT hF450 rfl rfl ?_
             refine wp_seq (wp_region_lit ?_)
             refine ev_runK 1 hF450 [6] (l':=[(6,.bool false)]) (w':=w449) (by kernel_rfl) ?_
             intro a457 hF456; clear hF450
             refine wpList_nil ?_
             have hS458:=hS451.drop.drop.drop.drop.drop.drop
             clear hS451
             refine thenN ?_
             refine wp_ret ?_
             refine thenR (thenR (thenR ?_))
             refine blockR ?_
             refine thenR (thenR ?_)
             refine blockR ?_
             refine thenR ?_
             obtain rfl:=Option.some.inj hm455
             refine ev_ret hF456 [6] (.bool false) rfl rfl rfl ?_
             exact ⟨rfl,hS458⟩
            rw [hc454] at hF450
            have hm460:=ifNot hc454 hm452; clear hm452
            refine ev_condF hF450 rfl rfl ?_
            refine wp_skip ?_
            have hF461:=hF450.keep [0,1,2,7,8,9,10,13]
            clear hF450
            refine thenN (wp_seq (wp_region_lit ?_))
            refine ev_runK 2 hF461 [0,1,2,7,8,9,10,128] (l':=[(128,.bool (x436 == 0)),(10,nI x79),(9,nI x80),(8,.slice p88 L75.length c89),(7,nP z24 0),(0,nI x5),(1,.slice pa1 K1.length ca1),(2,.slice pa2 K2.length ca2)]) (w':=w449) (by kernel_rfl) ?_
            intro a463 hF462; clear hF461
            refine wpList_nil (thenN ?_)
            refine joinQ (fun aI wI=>∃ (v465:Value) (L464:List Int),Fr 162 aI [(10,nI x79),(9,nI x80),(8,v465),(7,nP z24 0),(0,nI x5),(1,.slice pa1 K1.length ca1),(2,.slice pa2 K2.length ca2)]∧St w0 [] (HeapP z25 z26 s437::BlkP z24 32 #[nP z25 0,nP z27 0,.slice p40 L16.length c41,.slice p44 L17.length c45]::RHeapP z27 z28 z29 z30 z31 s427::RowP (.slice p40 L16.length c41) L16::RowP (.slice p44 L17.length c45) L17::OffP (v465) L464::ps) wI∧RingTurns.j29 k L16 L17 x79 x80 (RingTurns.l20 K1 K2 k x5 L16 L17 k81) s427 s437 L464=some r0) ?_ ?_
            rotate_left
            · rintro a467 w468 ⟨v465,L464,hF469,hS470,hm471⟩
              clear hF462 hS451 hm460
              unfold RingTurns.j29 at hm471
              obtain ⟨hl476,p473,c474,rfl,hp475⟩:=St.shapeO hS470 5 rfl
              exact thenN ⟨s437,s427,.slice p473 L464.length c474,L464,x80,hF469,hS470,hm471⟩
            · skip
              cases hc477:(x436 == 0)
              case true =>
               rw [hc477] at hF462
               have hm478:=ifYes hc477 hm460; clear hm460
               refine ev_condT hF462 rfl rfl ?_
               refine wp_region_lit ?_
               refine ev_runs 1 hF462 (l':=[(129,.slice p88 L75.length c89),(128,.bool true),(10,nI x79),(9,nI x80),(8,.slice p88 L75.length c89),(7,nP z24 0),(0,nI x5),(1,.slice pa1 K1.length ca1),(2,.slice pa2 K2.length ca2)]) (w':=w449) (by kernel_rfl) ?_
               intro a480 hF479; clear hF462
               obtain ⟨hc481,hm482⟩:=ifTE hm478; clear hm478
               obtain ⟨g483,of484,rfl⟩:=hp90.resolve_left (by have:=inR_spec hc481; omega)
               have hS485:=hS451.pick5
               clear hS451
               obtain ⟨L486,hx487,hm488⟩:=bind1E hm482; clear hm482
               obtain ⟨hb489,hb490,hl491,hS492⟩:=St.cutO hS485 hx487; clear hS485
               refine ev_one (.slice (some ⟨g483,if c89=(1:Int).toNat then of484 else of484+(1:Int).toNat,none⟩) L486.length (c89 - (1:Int).toNat)) w449 hF479 (by kernel_rfl) rfl (by kernel_rfl) (by rw [hl491]; exact run_sliceLo rfl rfl rfl rfl rfl hb489.1 hb489.2.1 hb489.2.2 _) (l':=[(130,.slice (some ⟨g483,if c89=(1:Int).toNat then of484 else of484+(1:Int).toNat,none⟩) L486.length (c89 - (1:Int).toNat)),(129,.slice (some ⟨g483,of484,none⟩) L75.length c89),(128,.bool true),(10,nI x79),(9,nI x80),(8,.slice (some ⟨g483,of484,none⟩) L75.length c89),(7,nP z24 0),(0,nI x5),(1,.slice pa1 K1.length ca1),(2,.slice pa2 K2.length ca2)]) (by kernel_rfl) ?_
               intro a494 hF493; clear hF479
               have hF495:=hF493.keep [0,1,2,7,9,10,128,130]; clear hF493
               refine ev_runK 1 hF495 [0,1,2,7,8,9,10] (l':=[(8,.slice (some ⟨g483,if c89=(1:Int).toNat then of484 else of484+(1:Int).toNat,none⟩) L486.length (c89 - (1:Int).toNat)),(10,nI x79),(9,nI x80),(7,nP z24 0),(0,nI x5),(1,.slice pa1 K1.length ca1),(2,.slice pa2 K2.length ca2)]) (w':=w449) (by kernel_rfl) ?_
               intro a497 hF496; clear hF495
               refine wpList_nil ?_
               have hF498:Fr 162 a497 [(10,nI x79),(9,nI x80),(8,.slice (some ⟨g483,if c89=(1:Int).toNat then of484 else of484+(1:Int).toNat,none⟩) L486.length (c89 - (1:Int).toNat)),(7,nP z24 0),(0,nI x5),(1,.slice pa1 K1.length ca1),(2,.slice pa2 K2.length ca2)]:=Fr.re hF496 (by kernel_rfl)
               clear hF496
               have hS499:=hS492.pick5.pick5.pick5.pick5.pick5
               clear hS492
               exact thenN ⟨.slice (some ⟨g483,if c89=(1:Int).toNat then of484 else of484+(1:Int).toNat,none⟩) L486.length (c89 - (1:Int).toNat),L486,hF498,hS499,hm488⟩
              rw [hc477] at hF462
              have hm500:=ifNot hc477 hm460; clear hm460
              refine ev_condF hF462 rfl rfl ?_
              refine wp_skip ?_
              have hF501:=hF462.keep [0,1,2,7,8,9,10]
              clear hF462
              exact thenN ⟨.slice p88 L75.length c89,L75,hF501,hS451,hm500⟩
          · skip
            refine wp_region_lit ?_
            refine ev_runs 7 hF444 (l':=[(104,.bool (!((x436 == 0) == (decide ((L75.length:Int) > 0))))),(103,.bool (!((x436 == 0) == (decide ((L75.length:Int) > 0))))),(102,.bool (decide ((L75.length:Int) > 0))),(101,nI ((L75.length:Int))),(100,.slice p88 L75.length c89),(99,.bool (x436 == 0)),(98,nI x436),(13,nI x436),(12,nI x435),(10,nI x79),(9,nI x80),(8,.slice p88 L75.length c89),(7,nP z24 0),(0,nI x5),(1,.slice pa1 K1.length ca1),(2,.slice pa2 K2.length ca2)]) (w':=w440) (by kernel_rfl) ?_
            intro a503 hF502; clear hF444
            cases hc504:(!((x436 == 0) == (decide ((L75.length:Int) > 0))))
            case true =>
             rw [hc504] at hF502
             have hm505:=ifYes hc504 hm439; clear hm439
             refine ev_runK 22 hF502 [0,1,2,7,8,9,10,13,126] (l':=[(126,.bool true),(13,nI x436),(10,nI x79),(9,nI x80),(8,.slice p88 L75.length c89),(7,nP z24 0),(0,nI x5),(1,.slice pa1 K1.length ca1),(2,.slice pa2 K2.length ca2)]) (w':=w440) (by kernel_rfl) ?_
             intro a507 hF506; clear hF502
             refine wpList_nil ?_
             exact thenN ⟨true,hF506,hS442,hm505⟩
            rw [hc504] at hF502
            have hm508:=ifNot hc504 hm439; clear hm439
            refine ev_runs 3 hF502 (l':=[(107,.bool (x436 == 0)),(106,.bool (x436 == 0)),(105,nI x436),(104,.bool false),(103,.bool false),(102,.bool (decide ((L75.length:Int) > 0))),(101,nI ((L75.length:Int))),(100,.slice p88 L75.length c89),(99,.bool (x436 == 0)),(98,nI x436),(13,nI x436),(12,nI x435),(10,nI x79),(9,nI x80),(8,.slice p88 L75.length c89),(7,nP z24 0),(0,nI x5),(1,.slice pa1 K1.length ca1),(2,.slice pa2 K2.length ca2)]) (w':=w440) (by kernel_rfl) ?_
            intro a510 hF509; clear hF502
            cases hc511:(x436 == 0)
            case true =>
             rw [hc511] at hF509
             have hm512:=ifYes hc511 hm508; clear hm508
             refine ev_runs 2 hF509 (l':=[(109,.slice p88 L75.length c89),(108,nI x435),(107,.bool true),(106,.bool true),(105,nI x436),(104,.bool false),(103,.bool false),(102,.bool (decide ((L75.length:Int) > 0))),(101,nI ((L75.length:Int))),(100,.slice p88 L75.length c89),(99,.bool true),(98,nI x436),(13,nI x436),(12,nI x435),(10,nI x79),(9,nI x80),(8,.slice p88 L75.length c89),(7,nP z24 0),(0,nI x5),(1,.slice pa1 K1.length ca1),(2,.slice pa2 K2.length ca2)]) (w':=w440) (by kernel_rfl) ?_
             intro a514 hF513; clear hF509
             obtain ⟨hc515,hm516⟩:=ifTE hm512; clear hm512
             obtain ⟨g517,of518,rfl⟩:=hp90.resolve_left (by have:=inR_spec hc515; omega)
             refine ev_one (nP g517 ((of518+(0:Int).toNat))) w440 hF513 (by kernel_rfl) rfl (by kernel_rfl) (run_idxO rfl rfl rfl rfl rfl (inR_spec hc515).1 (inR_spec hc515).2 _) (l':=[(110,nP g517 ((of518+(0:Int).toNat))),(109,.slice (some ⟨g517,of518,none⟩) L75.length c89),(108,nI x435),(107,.bool true),(106,.bool true),(105,nI x436),(104,.bool false),(103,.bool false),(102,.bool (decide ((L75.length:Int) > 0))),(101,nI ((L75.length:Int))),(100,.slice (some ⟨g517,of518,none⟩) L75.length c89),(99,.bool true),(98,nI x436),(13,nI x436),(12,nI x435),(10,nI x79),(9,nI x80),(8,.slice (some ⟨g517,of518,none⟩) L75.length c89),(7,nP z24 0),(0,nI x5),(1,.slice pa1 K1.length ca1),(2,.slice pa2 K2.length ca2)]) (by kernel_rfl) ?_
             intro a520 hF519; clear hF513
             refine ev_one (nI (atI L75 (0:Int))) w440 hF519 (by kernel_rfl) rfl (by kernel_rfl) (run_load1 rfl rfl rfl (St.atO hS442 5 rfl hc515)) (l':=[(111,nI (atI L75 (0:Int))),(110,nP g517 ((of518+(0:Int).toNat))),(109,.slice (some ⟨g517,of518,none⟩) L75.length c89),(108,nI x435),(107,.bool true),(106,.bool true),(105,nI x436),(104,.bool false),(103,.bool false),(102,.bool (decide ((L75.length:Int) > 0))),(101,nI ((L75.length:Int))),(100,.slice (some ⟨g517,of518,none⟩) L75.length c89),(99,.bool true),(98,nI x436),(13,nI x436),(12,nI x435),(10,nI x79),(9,nI x80),(8,.slice (some ⟨g517,of518,none⟩) L75.length c89),(7,nP z24 0),(0,nI x5),(1,.slice pa1 K1.length ca1),(2,.slice pa2 K2.length ca2)]) (by kernel_rfl) ?_
             intro a522 hF521; clear hF519
             refine ev_runs 4 hF521 (l':=[(115,.bool (x435 != (atI L75 (0:Int)))),(114,.bool (x435 != (atI L75 (0:Int)))),(113,.bool (x435 != (atI L75 (0:Int)))),(112,.bool (x435 != (atI L75 (0:Int)))),(111,nI (atI L75 (0:Int))),(110,nP g517 ((of518+(0:Int).toNat))),(109,.slice (some ⟨g517,of518,none⟩) L75.length c89),(108,nI x435),(107,.bool true),(106,.bool true),(105,nI x436),(104,.bool false),(103,.bool false),(102,.bool (decide ((L75.length:Int) > 0))),(101,nI ((L75.length:Int))),(100,.slice (some ⟨g517,of518,none⟩) L75.length c89),(99,.bool true),(98,nI x436),(13,nI x436),(12,nI x435),(10,nI x79),(9,nI x80),(8,.slice (some ⟨g517,of518,none⟩) L75.length c89),(7,nP z24 0),(0,nI x5),(1,.slice pa1 K1.length ca1),(2,.slice pa2 K2.length ca2)]) (w':=w440) (by kernel_rfl) ?_
             intro a524 hF523; clear hF521
             cases hc525:(x435 != (atI L75 (0:Int)))
             case true =>
              rw [hc525] at hF523
              have hm526:=ifYes hc525 hm516; clear hm516
              refine ev_runK 11 hF523 [0,1,2,7,8,9,10,13,126] (l':=[(126,.bool true),(13,nI x436),(10,nI x79),(9,nI x80),(8,.slice (some ⟨g517,of518,none⟩) L75.length c89),(7,nP z24 0),(0,nI x5),(1,.slice pa1 K1.length ca1),(2,.slice pa2 K2.length ca2)]) (w':=w440) (by kernel_rfl) ?_
              intro a528 hF527; clear hF523
              refine wpList_nil ?_
              exact thenN ⟨true,hF527,hS442,hm526⟩
             rw [hc525] at hF523
             have hm529:=ifNot hc525 hm516; clear hm516
             refine ev_runs 3 hF523 (l':=[(118,.bool (x436 != 0)),(117,.bool (x436 != 0)),(116,nI x436),(115,.bool false),(114,.bool false),(113,.bool false),(112,.bool false),(111,nI (atI L75 (0:Int))),(110,nP g517 ((of518+(0:Int).toNat))),(109,.slice (some ⟨g517,of518,none⟩) L75.length c89),(108,nI x435),(107,.bool true),(106,.bool true),(105,nI x436),(104,.bool false),(103,.bool false),(102,.bool (decide ((L75.length:Int) > 0))),(101,nI ((L75.length:Int))),(100,.slice (some ⟨g517,of518,none⟩) L75.length c89),(99,.bool true),(98,nI x436),(13,nI x436),(12,nI x435),(10,nI x79),(9,nI x80),(8,.slice (some ⟨g517,of518,none⟩) L75.length c89),(7,nP z24 0),(0,nI x5),(1,.slice pa1 K1.length ca1),(2,.slice pa2 K2.length ca2)]) (w':=w440) (by kernel_rfl) ?_
             intro a531 hF530; clear hF523
             cases hc532:(x436 != 0)
             case true =>
              rw [hc532] at hF530
              have hm533:=ifYes hc532 hm529; clear hm529
              refine ev_runs 3 hF530 (l':=[(121,.bool (x436 != 8)),(120,.bool (x436 != 8)),(119,nI x436),(118,.bool true),(117,.bool true),(116,nI x436),(115,.bool false),(114,.bool false),(113,.bool false),(112,.bool false),(111,nI (atI L75 (0:Int))),(110,nP g517 ((of518+(0:Int).toNat))),(109,.slice (some ⟨g517,of518,none⟩) L75.length c89),(108,nI x435),(107,.bool true),(106,.bool true),(105,nI x436),(104,.bool false),(103,.bool false),(102,.bool (decide ((L75.length:Int) > 0))),(101,nI ((L75.length:Int))),(100,.slice (some ⟨g517,of518,none⟩) L75.length c89),(99,.bool true),(98,nI x436),(13,nI x436),(12,nI x435),(10,nI x79),(9,nI x80),(8,.slice (some ⟨g517,of518,none⟩) L75.length c89),(7,nP z24 0),(0,nI x5),(1,.slice pa1 K1.length ca1),(2,.slice pa2 K2.length ca2)]) (w':=w440) (by kernel_rfl) ?_
              intro a535 hF534; clear hF530
              cases hc536:(x436 != 8)
              case true =>
               rw [hc536] at hF534
               have hm537:=ifYes hc536 hm533; clear hm533
               refine ev_runK 5 hF534 [0,1,2,7,8,9,10,13,126] (l':=[(126,.bool true),(13,nI x436),(10,nI x79),(9,nI x80),(8,.slice (some ⟨g517,of518,none⟩) L75.length c89),(7,nP z24 0),(0,nI x5),(1,.slice pa1 K1.length ca1),(2,.slice pa2 K2.length ca2)]) (w':=w440) (by kernel_rfl) ?_
               intro a539 hF538; clear hF534
               refine wpList_nil ?_
               exact thenN ⟨true,hF538,hS442,hm537⟩
              rw [hc536] at hF534
              have hm540:=ifNot hc536 hm533; clear hm533
              refine ev_runK 5 hF534 [0,1,2,7,8,9,10,13,126] (l':=[(126,.bool (x435 != 0)),(13,nI x436),(10,nI x79),(9,nI x80),(8,.slice (some ⟨g517,of518,none⟩) L75.length c89),(7,nP z24 0),(0,nI x5),(1,.slice pa1 K1.length ca1),(2,.slice pa2 K2.length ca2)]) (w':=w440) (by kernel_rfl) ?_
              intro a542 hF541; clear hF534
              refine wpList_nil ?_
              exact thenN ⟨x435 != 0,hF541,hS442,hm540⟩
             rw [hc532] at hF530
             have hm543:=ifNot hc532 hm529; clear hm529
             refine ev_runK 8 hF530 [0,1,2,7,8,9,10,13,126] (l':=[(126,.bool false),(13,nI x436),(10,nI x79),(9,nI x80),(8,.slice (some ⟨g517,of518,none⟩) L75.length c89),(7,nP z24 0),(0,nI x5),(1,.slice pa1 K1.length ca1),(2,.slice pa2 K2.length ca2)]) (w':=w440) (by kernel_rfl) ?_
             intro a545 hF544; clear hF530
             refine wpList_nil ?_
             exact thenN ⟨false,hF544,hS442,hm543⟩
            rw [hc511] at hF509
            have hm546:=ifNot hc511 hm508; clear hm508
            refine ev_runs 11 hF509 (l':=[(118,.bool (x436 != 0)),(117,.bool (x436 != 0)),(116,nI x436),(115,.bool false),(114,.bool false),(113,.bool false),(112,.tuple #[]),(111,.tuple #[]),(110,.tuple #[]),(109,.tuple #[]),(108,.tuple #[]),(107,.bool false),(106,.bool false),(105,nI x436),(104,.bool false),(103,.bool false),(102,.bool (decide ((L75.length:Int) > 0))),(101,nI ((L75.length:Int))),(100,.slice p88 L75.length c89),(99,.bool false),(98,nI x436),(13,nI x436),(12,nI x435),(10,nI x79),(9,nI x80),(8,.slice p88 L75.length c89),(7,nP z24 0),(0,nI x5),(1,.slice pa1 K1.length ca1),(2,.slice pa2 K2.length ca2)]) (w':=w440) (by kernel_rfl) ?_
            intro a548 hF547; clear hF509
            cases hc549:(x436 != 0)
            case true =>
             rw [hc549] at hF547
             have hm550:=ifYes hc549 hm546; clear hm546
             refine ev_runs 3 hF547 (l':=[(121,.bool (x436 != 8)),(120,.bool (x436 != 8)),(119,nI x436),(118,.bool true),(117,.bool true),(116,nI x436),(115,.bool false),(114,.bool false),(113,.bool false),(112,.tuple #[]),(111,.tuple #[]),(110,.tuple #[]),(109,.tuple #[]),(108,.tuple #[]),(107,.bool false),(106,.bool false),(105,nI x436),(104,.bool false),(103,.bool false),(102,.bool (decide ((L75.length:Int) > 0))),(101,nI ((L75.length:Int))),(100,.slice p88 L75.length c89),(99,.bool false),(98,nI x436),(13,nI x436),(12,nI x435),(10,nI x79),(9,nI x80),(8,.slice p88 L75.length c89),(7,nP z24 0),(0,nI x5),(1,.slice pa1 K1.length ca1),(2,.slice pa2 K2.length ca2)]) (w':=w440) (by kernel_rfl) ?_
             intro a552 hF551; clear hF547
             cases hc553:(x436 != 8)
             case true =>
              rw [hc553] at hF551
              have hm554:=ifYes hc553 hm550; clear hm550
              refine ev_runK 5 hF551 [0,1,2,7,8,9,10,13,126] (l':=[(126,.bool true),(13,nI x436),(10,nI x79),(9,nI x80),(8,.slice p88 L75.length c89),(7,nP z24 0),(0,nI x5),(1,.slice pa1 K1.length ca1),(2,.slice pa2 K2.length ca2)]) (w':=w440) (by kernel_rfl) ?_
              intro a556 hF555; clear hF551
              refine wpList_nil ?_
              exact thenN ⟨true,hF555,hS442,hm554⟩
             rw [hc553] at hF551
             have hm557:=ifNot hc553 hm550; clear hm550
             refine ev_runK 5 hF551 [0,1,2,7,8,9,10,13,126] (l':=[(126,.bool (x435 != 0)),(13,nI x436),(10,nI x79),(9,nI x80),(8,.slice p88 L75.length c89),(7,nP z24 0),(0,nI x5),(1,.slice pa1 K1.length ca1),(2,.slice pa2 K2.length ca2)]) (w':=w440) (by kernel_rfl) ?_
             intro a559 hF558; clear hF551
             refine wpList_nil ?_
             exact thenN ⟨x435 != 0,hF558,hS442,hm557⟩
            rw [hc549] at hF547
            have hm560:=ifNot hc549 hm546; clear hm546
            refine ev_runK 8 hF547 [0,1,2,7,8,9,10,13,126] (l':=[(126,.bool false),(13,nI x436),(10,nI x79),(9,nI x80),(8,.slice p88 L75.length c89),(7,nP z24 0),(0,nI x5),(1,.slice pa1 K1.length ca1),(2,.slice pa2 K2.length ca2)]) (w':=w440) (by kernel_rfl) ?_
            intro a562 hF561; clear hF547
            refine wpList_nil ?_
            exact thenN ⟨false,hF561,hS442,hm560⟩
      · skip
        refine wp_region_lit ?_
        refine ev_runs 2 hF102 (l':=[(40,nI x79),(39,.slice pa2 K2.length ca2),(10,nI x79),(9,nI x80),(8,.slice p88 L75.length c89),(7,nP z24 0),(0,nI x5),(1,.slice pa1 K1.length ca1),(2,.slice pa2 K2.length ca2)]) (w':=w95) (by kernel_rfl) ?_
        intro a564 hF563; clear hF102
        obtain ⟨hc565,hm566⟩:=ifTE hm101; clear hm101
        obtain ⟨b567,o568,rfl⟩:=argK hA2 hc565
        refine ev_one (nP b567 ((o568+x79.toNat))) w95 hF563 (by kernel_rfl) rfl (by kernel_rfl) (run_idxO rfl rfl rfl rfl rfl (inR_spec hc565).1 (inR_spec hc565).2 _) (l':=[(41,nP b567 ((o568+x79.toNat))),(40,nI x79),(39,.slice (some ⟨b567,o568,none⟩) K2.length ca2),(10,nI x79),(9,nI x80),(8,.slice p88 L75.length c89),(7,nP z24 0),(0,nI x5),(1,.slice pa1 K1.length ca1),(2,.slice (some ⟨b567,o568,none⟩) K2.length ca2)]) (by kernel_rfl) ?_
        intro a570 hF569; clear hF563
        refine ev_one (nI (atI K2 x79)) w95 hF569 (by kernel_rfl) rfl (by kernel_rfl) (run_load1 rfl rfl rfl (argAt hA2 hS97 hc565)) (l':=[(42,nI (atI K2 x79)),(41,nP b567 ((o568+x79.toNat))),(40,nI x79),(39,.slice (some ⟨b567,o568,none⟩) K2.length ca2),(10,nI x79),(9,nI x80),(8,.slice p88 L75.length c89),(7,nP z24 0),(0,nI x5),(1,.slice pa1 K1.length ca1),(2,.slice (some ⟨b567,o568,none⟩) K2.length ca2)]) (by kernel_rfl) ?_
        intro a572 hF571; clear hF569
        refine ev_runs 3 hF571 (l':=[(45,.bool ((Int.tmod (atI K2 x79) 2) == 0)),(44,.bool ((Int.tmod (atI K2 x79) 2) == 0)),(43,nI (Int.tmod (atI K2 x79) 2)),(42,nI (atI K2 x79)),(41,nP b567 ((o568+x79.toNat))),(40,nI x79),(39,.slice (some ⟨b567,o568,none⟩) K2.length ca2),(10,nI x79),(9,nI x80),(8,.slice p88 L75.length c89),(7,nP z24 0),(0,nI x5),(1,.slice pa1 K1.length ca1),(2,.slice (some ⟨b567,o568,none⟩) K2.length ca2)]) (w':=w95) (by kernel_rfl) ?_
        intro a574 hF573; clear hF571
        cases hc575:((Int.tmod (atI K2 x79) 2) == 0)
        case true =>
         rw [hc575] at hF573
         have hm576:=ifYes hc575 hm566; clear hm566
         refine ev_runK 5 hF573 [0,1,2,7,8,9,10,50] (l':=[(50,.bool (decide (x80<(K1.length:Int)))),(10,nI x79),(9,nI x80),(8,.slice p88 L75.length c89),(7,nP z24 0),(0,nI x5),(1,.slice pa1 K1.length ca1),(2,.slice (some ⟨b567,o568,none⟩) K2.length ca2)]) (w':=w95) (by kernel_rfl) ?_
         intro a578 hF577; clear hF573
         refine wpList_nil ?_
         exact thenN ⟨decide (x80<(K1.length:Int)),hF577,hS97,hm576⟩
        rw [hc575] at hF573
        have hm579:=ifNot hc575 hm566; clear hm566
        refine ev_runK 5 hF573 [0,1,2,7,8,9,10,50] (l':=[(50,.bool false),(10,nI x79),(9,nI x80),(8,.slice p88 L75.length c89),(7,nP z24 0),(0,nI x5),(1,.slice pa1 K1.length ca1),(2,.slice (some ⟨b567,o568,none⟩) K2.length ca2)]) (w':=w95) (by kernel_rfl) ?_
        intro a581 hF580; clear hF573
        refine wpList_nil ?_
        exact thenN ⟨false,hF580,hS97,hm579⟩
     rw [hc100] at hF96
     have hm582:=ifNot hc100 hm98; clear hm98
     refine ev_condF hF96 rfl rfl ?_
     refine wp_exit ?_
     refine thenE ?_
     refine thenE ?_
     refine blockE ?_
     refine thenN (wp_seq (wp_region_lit ?_))
     refine ev_runK 1 hF96 [6] (l':=[(6,.bool true)]) (w':=w95) (by kernel_rfl) ?_
     intro a584 hF583; clear hF96
     refine wpList_nil ?_
     have hS585:=hS97.drop.drop.drop.drop.drop.drop
     clear hS97
     refine thenN ?_
     refine wp_ret ?_
     obtain rfl:=Option.some.inj hm582
     refine ev_ret hF583 [6] (.bool true) rfl rfl rfl ?_
     exact ⟨rfl,hS585⟩
   · skip
     refine wp_region_lit ?_
     refine ev_runs 5 hF84 (l':=[(33,.bool (decide (x79<(K2.length:Int)))),(32,.bool (decide (x79<(K2.length:Int)))),(31,nI ((K2.length:Int))),(30,.slice pa2 K2.length ca2),(29,nI x79),(10,nI x79),(9,nI x80),(8,.slice p88 L75.length c89),(7,nP z24 0),(0,nI x5),(1,.slice pa1 K1.length ca1),(2,.slice pa2 K2.length ca2)]) (w':=w83) (by kernel_rfl) ?_
     intro a588 hF587; clear hF84
     cases hc589:(decide (x79<(K2.length:Int)))
     case true =>
      rw [hc589] at hF587
      have hm590:=ifYes hc589 hm87; clear hm87
      refine ev_runK 3 hF587 [0,1,2,7,8,9,10,36] (l':=[(36,.bool (decide (x79<60))),(10,nI x79),(9,nI x80),(8,.slice p88 L75.length c89),(7,nP z24 0),(0,nI x5),(1,.slice pa1 K1.length ca1),(2,.slice pa2 K2.length ca2)]) (w':=w83) (by kernel_rfl) ?_
      intro a592 hF591; clear hF587
      refine wpList_nil ?_
      exact thenN ⟨decide (x79<60),hF591,hS85,hm590⟩
     rw [hc589] at hF587
     have hm593:=ifNot hc589 hm87; clear hm87
     refine ev_runK 3 hF587 [0,1,2,7,8,9,10,36] (l':=[(36,.bool false),(10,nI x79),(9,nI x80),(8,.slice p88 L75.length c89),(7,nP z24 0),(0,nI x5),(1,.slice pa1 K1.length ca1),(2,.slice pa2 K2.length ca2)]) (w':=w83) (by kernel_rfl) ?_
     intro a595 hF594; clear hF587
     refine wpList_nil ?_
     exact thenN ⟨false,hF594,hS85,hm593⟩
 · skip
   refine wp_region_lit ?_
   refine ev_call 15 #[] hF48 rfl rfl (by kernel_rfl) rfl (by kernel_rfl) (fun w=>by kernel_rfl) ?_
   obtain ⟨y596,hx597,hm598⟩:=bind1E hm19; clear hm19
   refine (law12_awake.ok hS50 hx597).mono ?_
   rintro _ w599 ⟨rfl,hS601⟩ a600 hF602; clear hF48 hS50
   refine ev_runs 2 hF602 (l':=[(25,.bool (!(y596))),(24,.bool (!(y596))),(23,.bool (y596)),(7,nP z24 0),(0,nI x5),(1,.slice pa1 K1.length ca1),(2,.slice pa2 K2.length ca2)]) (w':=w599) (by kernel_rfl) ?_
   intro a604 hF603; clear hF602
   cases hc605:(!(y596))
   case true =>
    rw [hc605] at hF603
    have hm606:=ifYes hc605 hm598; clear hm598
    refine ev_runK 3 hF603 [0,1,2,7,28] (l':=[(28,.bool true),(7,nP z24 0),(0,nI x5),(1,.slice pa1 K1.length ca1),(2,.slice pa2 K2.length ca2)]) (w':=w599) (by kernel_rfl) ?_
    intro a608 hF607; clear hF603
    refine wpList_nil ?_
    exact thenN ⟨true,hF607,hS601,hm606⟩
   rw [hc605] at hF603
   have hm609:=ifNot hc605 hm598; clear hm598
   refine ev_runK 3 hF603 [0,1,2,7,28] (l':=[(28,.bool false),(7,nP z24 0),(0,nI x5),(1,.slice pa1 K1.length ca1),(2,.slice pa2 K2.length ca2)]) (w':=w599) (by kernel_rfl) ?_
   intro a611 hF610; clear hF603
   refine wpList_nil ?_
   exact thenN ⟨false,hF610,hS601,hm609⟩
end Go.Proofs.YtaojmbkmicjecaaGreat
