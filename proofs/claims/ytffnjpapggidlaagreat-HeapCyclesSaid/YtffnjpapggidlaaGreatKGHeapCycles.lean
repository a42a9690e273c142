/- GHeapCycles -/
import Derived.Test.YtffnjpapggidlaaGreatKG09p
import Derived.Test.YtffnjpapggidlaaGreatKGRefLive
import Derived.Deep.LoopGhost
import Derived.KernelRfl
namespace Go.Proofs.YtffnjpapggidlaaGreat
open Go.RowKit
set_option linter.unusedVariables false
def HeapCycles.j11 (K1:List Op09) (k:Nat) (s66:HSt) (s67:HSt) (x68:Int) (rec71:HSt→HSt→Int→Option (Bool)) (x114:Int):Option (Bool):=bind3 (law09_play.m k s67 s66 (⟨x114,(atX kOp09 K1 x68).of,(atX kOp09 K1 x68).at',(atX kOp09 K1 x68).i,(atX kOp09 K1 x68).w,(atX kOp09 K1 x68).to⟩:Op09)) fun y127 s128 s129=>(if (!(y127)) then some (false) else rec71 s129 s128 (IntKind.i64.wrap (x68+1)))
def HeapCycles.j10 (K1:List Op09) (k:Nat) (s66:HSt) (s67:HSt) (x68:Int) (rec71:HSt→HSt→Int→Option (Bool)) (y106:Bool):Option (Bool):=(if (y106) then HeapCycles.j11 K1 k s66 s67 x68 rec71 5 else HeapCycles.j11 K1 k s66 s67 x68 rec71 ((atX kOp09 K1 x68).kind))
def HeapCycles.j28 (x365:Int) (rec368:List Int→List Int→HSt→Int→Option (Bool)) (L398:List Int) (L400:List Int) (s402:HSt):Option (Bool):=rec368 L400 L398 s402 (IntKind.i64.wrap (x365+1))
def HeapCycles.l27b (x313:Int) (rec316:List Int→List Int→HSt→HSt→Int→Option (Bool)) (L342:List Gn) (s343:HSt) (rec368:List Int→List Int→HSt→Int→Option (Bool)) (L360:List Int) (L362:List Int) (s364:HSt) (x365:Int):Option (Bool):=(if (decide (x365<(L342.length:Int))) then (if (inR x365 L342.length) then (if ((atG L342 x365).kept) then bind1 (pushM L360 ((atG L342 x365).at')) fun L435=>bind2 (pAStore ((atG L342 x365).at') 1 0 s364) fun x450 s451=>HeapCycles.j28 x365 rec368 L362 L435 s451 else bind1 (pushM L362 ((atG L342 x365).at')) fun L473=>HeapCycles.j28 x365 rec368 L473 L360 s364) else none) else rec316 L360 L362 s343 s364 (IntKind.i64.wrap (x313+1)))
def HeapCycles.l27 (x313:Int) (rec316:List Int→List Int→HSt→HSt→Int→Option (Bool)) (L342:List Gn) (s343:HSt):Nat→List Int→List Int→HSt→Int→Option (Bool)
  | 0=>fun _ _ _ _=>none
  | kI+1=>HeapCycles.l27b x313 rec316 L342 s343 (HeapCycles.l27 x313 rec316 L342 s343 kI)
def HeapCycles.j30 (y562:Bool):Option (Bool):=some (y562)
def HeapCycles.l29b (k:Nat) (x5:Int) (s67:HSt) (L309:List Int) (s311:HSt) (x313:Int) (L493:List Int) (rec515:Int→Option (Bool)) (x512:Int):Option (Bool):=(if (decide (x512<((hObjsF s67.a).length:Int))) then (if (inR x512 (hObjsF s67.a).length) then bind1 (help_In.m k L493 (atI (hObjsF s67.a) x512)) fun y533=>bind1 (help_In.m k L309 (atI (hObjsF s67.a) x512)) fun y541=>(if ((y533) == (y541)) then some (false) else rec515 (IntKind.i64.wrap (x512+1))) else none) else (if (decide (x313≤(IntKind.i64.wrap ((IntKind.i64.wrap ((IntKind.i64.wrap (2 * ((hObjsF s67.a).length:Int)))+x5))+2)))) then (if (s311.cy == 1) then bind1 (help_Plain.m k (hObjsF s311.a) L493) fun y605=>HeapCycles.j30 y605 else HeapCycles.j30 false) else HeapCycles.j30 false))
def HeapCycles.l29 (k:Nat) (x5:Int) (s67:HSt) (L309:List Int) (s311:HSt) (x313:Int) (L493:List Int):Nat→Int→Option (Bool)
  | 0=>fun _=>none
  | kI+1=>HeapCycles.l29b k x5 s67 L309 s311 x313 L493 (HeapCycles.l29 k x5 s67 L309 s311 x313 L493 kI)
def HeapCycles.j24 (k:Nat) (x5:Int) (s67:HSt) (L307:List Int) (L309:List Int) (s311:HSt) (s312:HSt) (x313:Int) (rec316:List Int→List Int→HSt→HSt→Int→Option (Bool)) (y329:Bool):Option (Bool):=(if (y329) then bind2 (pStep s311) fun L342 s343=>HeapCycles.l27 x313 rec316 L342 s343 k L307 L309 s312 0 else bind2 (ref06_Reach.m k s312 L307) fun L493 s494=>HeapCycles.l29 k x5 s67 L309 s311 x313 L493 k 0)
def HeapCycles.l23b (k:Nat) (x5:Int) (s67:HSt) (rec316:List Int→List Int→HSt→HSt→Int→Option (Bool)) (L307:List Int) (L309:List Int) (s311:HSt) (s312:HSt) (x313:Int):Option (Bool):=(if (s311.ph != 0) then HeapCycles.j24 k x5 s67 L307 L309 s311 s312 x313 rec316 (decide (x313<3000)) else HeapCycles.j24 k x5 s67 L307 L309 s311 s312 x313 rec316 false)
def HeapCycles.l23 (k:Nat) (x5:Int) (s67:HSt):Nat→List Int→List Int→HSt→HSt→Int→Option (Bool)
  | 0=>fun _ _ _ _ _=>none
  | kI+1=>HeapCycles.l23b k x5 s67 (HeapCycles.l23 k x5 s67 kI)
def HeapCycles.l12b (K2:List Int) (k:Nat) (x5:Int) (s67:HSt) (rec191:List Int→HSt→Int→Option (Bool)) (L185:List Int) (s187:HSt) (x188:Int):Option (Bool):=(if (decide (x188<(K2.length:Int))) then (if (inR x188 K2.length) then bind2 (law09_pick.m k s187 (atI K2 x188)) fun x216 s217=>bind1 (pushM L185 x216) fun L227=>rec191 L227 s217 (IntKind.i64.wrap (x188+1)) else none) else bind2 (pBegin s67 L185) fun x263 s264=>(if (x263 != 0) then some (false) else bind1 (appM [] L185) fun L290=>HeapCycles.l23 k x5 s67 k L290 [] s264 s187 0))
def HeapCycles.l12 (K2:List Int) (k:Nat) (x5:Int) (s67:HSt):Nat→List Int→HSt→Int→Option (Bool)
  | 0=>fun _ _ _=>none
  | kI+1=>HeapCycles.l12b K2 k x5 s67 (HeapCycles.l12 K2 k x5 s67 kI)
def HeapCycles.j9 (K1:List Op09) (K2:List Int) (k:Nat) (x5:Int) (s66:HSt) (s67:HSt) (x68:Int) (rec71:HSt→HSt→Int→Option (Bool)) (y76:Bool):Option (Bool):=(if (y76) then (if (inR x68 K1.length) then (if (decide (((atX kOp09 K1 x68).kind) ≥ 1)) then HeapCycles.j10 K1 k s66 s67 x68 rec71 (decide (((atX kOp09 K1 x68).kind)≤4)) else HeapCycles.j10 K1 k s66 s67 x68 rec71 false) else none) else HeapCycles.l12 K2 k x5 s67 k [] s66 0)
def HeapCycles.l8b (K1:List Op09) (K2:List Int) (k:Nat) (x5:Int) (rec71:HSt→HSt→Int→Option (Bool)) (s66:HSt) (s67:HSt) (x68:Int):Option (Bool):=(if (decide (x68<(K1.length:Int))) then HeapCycles.j9 K1 K2 k x5 s66 s67 x68 rec71 (decide (x68<80)) else HeapCycles.j9 K1 K2 k x5 s66 s67 x68 rec71 false)
def HeapCycles.l8 (K1:List Op09) (K2:List Int) (k:Nat) (x5:Int):Nat→HSt→HSt→Int→Option (Bool)
  | 0=>fun _ _ _=>none
  | kI+1=>HeapCycles.l8b K1 K2 k x5 (HeapCycles.l8 K1 K2 k x5 kI)
def HeapCycles.j1 (K1:List Op09) (K2:List Int) (k:Nat) (x5:Int) (s12:HSt) (s26:HSt) (y41:Bool):Option (Bool):=(if (y41) then bind1 (law09_awake.m k ) fun y51=>some (y51) else HeapCycles.l8 K1 K2 k x5 k s26 s12 0)
def HeapCycles.m (k:Nat) (i0:Int) (K1:List Op09) (K2:List Int):Option (Bool):=bind1 (some (IntKind.i64.wrap (2+(IntKind.i64.wrap (Int.tmod (IntKind.u64.wrap i0) 5))))) fun x5=>bind1 (pNew x5) fun s12=>bind1 (prNew x5) fun s26=>bind1 (law09_awake.m k ) fun y648=>(if (!(y648)) then HeapCycles.j1 K1 K2 k x5 s12 s26 true else HeapCycles.j1 K1 K2 k x5 s12 s26 (decide ((K2.length:Int) > 20)))
set_option maxRecDepth 100000 in
set_option maxHeartbeats 40000000 in
theorem HeapCycles.ok {w0 w:World} {ps:List Piece} {k:Nat} {i0:Int} {pa1:Option Addr} {ca1:Nat} {K1:List Op09} (hA1:ArgX kOp09 w0 (.slice pa1 K1.length ca1) K1) {pa2:Option Addr} {ca2:Nat} {K2:List Int} (hA2:ArgInts w0 (.slice pa2 K2.length ca2) K2) {r0:Bool} (hS:St w0 [] (ps) w) (hm:HeapCycles.m k i0 K1 K2=some r0) :
    Calls Tryz.prog 5 #[nI i0,.slice pa1 K1.length ca1,.slice pa2 K2.length ca2] w fun e w'=>e=.returned (.bool r0)∧St w0 [] (ps) w':=by
 refine ev_enterL 201 [nI i0,.slice pa1 K1.length ca1,.slice pa2 K2.length ca2] Tryz.func5 rfl rfl (by simp) ?_
 intro a hF
 have hF0:Fr 201 a [(0,nI i0),(1,.slice pa1 K1.length ca1),(2,.slice pa2 K2.length ca2)]:=hF; clear hF
 unfold HeapCycles.m at hm
 refine wp_seq (wp_region_lit ?_)
 refine ev_runK 1 hF0 [0,1,2] (l':=[(0,nI i0),(1,.slice pa1 K1.length ca1),(2,.slice pa2 K2.length ca2)]) (w':=w) (by kernel_rfl) ?_
 intro a2 hF1; clear hF0
 refine wpList_nil (thenN (wp_seq (wp_region_lit ?_)))
 refine ev_runs 6 hF1 (l':=[(0,nI (IntKind.i64.wrap (2+(IntKind.i64.wrap (Int.tmod (IntKind.u64.wrap i0) 5))))),(27,nI (IntKind.i64.wrap (2+(IntKind.i64.wrap (Int.tmod (IntKind.u64.wrap i0) 5))))),(26,nI (IntKind.i64.wrap (Int.tmod (IntKind.u64.wrap i0) 5))),(25,.int .u64 (Int.tmod (IntKind.u64.wrap i0) 5)),(24,.int .u64 (IntKind.u64.wrap i0)),(23,nI i0),(1,.slice pa1 K1.length ca1),(2,.slice pa2 K2.length ca2)]) (w':=w) (by kernel_rfl) ?_
 intro a4 hF3; clear hF1
 obtain ⟨x5,hx6,hm7⟩:=bind1E hm; clear hm
 have hF8:=hF3; rw [Option.some.inj hx6] at hF8; clear hF3
 refine wpList_nil ?_
 have hF9:=hF8.keep [0,1,2]
 clear hF8
 refine thenN (wp_seq (wp_region_lit ?_))
 refine ev_runs 1 hF9 (l':=[(29,nI x5),(0,nI x5),(1,.slice pa1 K1.length ca1),(2,.slice pa2 K2.length ca2)]) (w':=w) (by kernel_rfl) ?_
 intro a11 hF10; clear hF9
 refine ev_call 31 #[nI x5] hF10 rfl rfl (by kernel_rfl) rfl (by kernel_rfl) (fun w=>by kernel_rfl) ?_
 obtain ⟨s12,hx13,hm14⟩:=bind1E hm7; clear hm7
 refine (p_New hS hx13).mono ?_
 rintro _ w15 ⟨z19,z20,rfl,hS17⟩ a16 hF18; clear hF10 hS
 refine ev_runK 5 hF18 [0,1,2,7,8] (l':=[(8,nI 0),(7,nP z19 0),(0,nI x5),(1,.slice pa1 K1.length ca1),(2,.slice pa2 K2.length ca2)]) (w':=w15) (by kernel_rfl) ?_
 intro a23 hF22; clear hF18
 refine wpList_nil (thenN (wp_seq (wp_region_lit ?_)))
 refine ev_runs 1 hF22 (l':=[(34,nI x5),(8,nI 0),(7,nP z19 0),(0,nI x5),(1,.slice pa1 K1.length ca1),(2,.slice pa2 K2.length ca2)]) (w':=w15) (by kernel_rfl) ?_
 intro a25 hF24; clear hF22
 refine ev_call 32 #[nI x5] hF24 rfl rfl (by kernel_rfl) rfl (by kernel_rfl) (fun w=>by kernel_rfl) ?_
 obtain ⟨s26,hx27,hm28⟩:=bind1E hm14; clear hm14
 refine (q_New hS17 hx27).mono ?_
 rintro _ w29 ⟨z33,z34,z35,z36,z37,rfl,hS31⟩ a30 hF32; clear hF24 hS17
 refine ev_runK 5 hF32 [0,1,2,7,8,9] (l':=[(9,nP z33 0),(8,nI 0),(7,nP z19 0),(0,nI x5),(1,.slice pa1 K1.length ca1),(2,.slice pa2 K2.length ca2)]) (w':=w29) (by kernel_rfl) ?_
 intro a40 hF39; clear hF32
 refine wpList_nil (thenN (wp_seq (wp_seq ?_)))
 refine joinQ (fun aI wI=>∃ (y41:Bool),Fr 201 aI [(57,.bool (y41)),(9,nP z33 0),(7,nP z19 0),(0,nI x5),(1,.slice pa1 K1.length ca1),(2,.slice pa2 K2.length ca2)]∧St w0 [] (RHeapP z33 z34 z35 z36 z37 s26::HeapP z19 z20 s12::ps) wI∧HeapCycles.j1 K1 K2 k x5 s12 s26 y41=some r0) ?_ ?_
 rotate_left
 · rintro a43 w44 ⟨y41,hF45,hS46,hm47⟩
   clear hF39 hS31 hm28
   unfold HeapCycles.j1 at hm47
   refine thenN ?_
   cases hc49:(y41)
   case true =>
    rw [hc49] at hF45
    have hm50:=ifYes hc49 hm47; clear hm47
    refine ev_condT hF45 rfl rfl ?_
    refine wp_seq (wp_region_lit ?_)
    refine ev_call 33 #[] hF45 rfl rfl (by kernel_rfl) rfl (by kernel_rfl) (fun w=>by kernel_rfl) ?_
    obtain ⟨y51,hx52,hm53⟩:=bind1E hm50; clear hm50
    refine (law09_awake.ok hS46 hx52).mono ?_
    rintro _ w54 ⟨rfl,hS56⟩ a55 hF57; clear hF45 hS46
    refine ev_runK 1 hF57 [6] (l':=[(6,.bool (y51))]) (w':=w54) (by kernel_rfl) ?_
    intro a59 hF58; clear hF57
    refine wpList_nil ?_
    have hS60:=hS56.drop.drop
    clear hS56
    refine thenN ?_
    refine wp_ret ?_
    refine thenR ?_
    obtain rfl:=Option.some.inj hm53
    refine ev_ret hF58 [6] (.bool (y51)) rfl rfl rfl ?_
    exact ⟨rfl,hS60⟩
   rw [hc49] at hF45
   have hm62:=ifNot hc49 hm47; clear hm47
   refine ev_condF hF45 rfl rfl ?_
   refine wp_skip ?_
   have hF63:=hF45.keep [0,1,2,7,9]
   clear hF45
   refine thenN (wp_seq (wp_seq (wp_region_lit ?_)))
   refine ev_runs 1 hF63 (l':=[(11,nI 0),(9,nP z33 0),(7,nP z19 0),(0,nI x5),(1,.slice pa1 K1.length ca1),(2,.slice pa2 K2.length ca2)]) (w':=w44) (by kernel_rfl) ?_
   intro a65 hF64; clear hF63
   refine wpList_nil (thenN ?_)
   refine wp_block ?_
   refine wp_loop_ghost (fun kI aI wI=>∃ (s66:HSt) (s67:HSt) (x68:Int),Fr 201 aI [(11,nI x68),(9,nP z33 0),(7,nP z19 0),(0,nI x5),(1,.slice pa1 K1.length ca1),(2,.slice pa2 K2.length ca2)]∧St w0 [] (RHeapP z33 z34 z35 z36 z37 s66::HeapP z19 z20 s67::ps) wI∧HeapCycles.l8 K1 K2 k x5 kI s66 s67 x68=some r0) k ⟨s26,s12,0,hF64,hS46,hm62⟩ ?_
   rintro k69 a70 w71 ⟨s66,s67,x68,hF72,hS73,hm74⟩
   clear hF64 hS46 hm62
   rcases k69 with _ | k69
   · cases hm74
   have hm75:HeapCycles.l8b K1 K2 k x5 (HeapCycles.l8 K1 K2 k x5 k69) s66 s67 x68=some r0:=hm74
   clear hm74
   unfold HeapCycles.l8b at hm75
   refine wp_seq (wp_seq ?_)
   refine joinQ (fun aI wI=>∃ (y76:Bool),Fr 201 aI [(66,.bool (y76)),(11,nI x68),(9,nP z33 0),(7,nP z19 0),(0,nI x5),(1,.slice pa1 K1.length ca1),(2,.slice pa2 K2.length ca2)]∧St w0 [] (RHeapP z33 z34 z35 z36 z37 s66::HeapP z19 z20 s67::ps) wI∧HeapCycles.j9 K1 K2 k x5 s66 s67 x68 (HeapCycles.l8 K1 K2 k x5 k69) y76=some r0) ?_ ?_
   rotate_left
   · rintro a78 w79 ⟨y76,hF80,hS81,hm82⟩
     clear hF72 hS73 hm75
     unfold HeapCycles.j9 at hm82
     refine thenN ?_
     cases hc84:(y76)
     case true =>
      rw [hc84] at hF80
      have hm85:=ifYes hc84 hm82; clear hm82
      refine ev_condT hF80 rfl rfl ?_
      refine wp_skip ?_
      have hF86:=hF80.keep [0,1,2,7,9,11]
      clear hF80
      refine thenN (wp_seq ?_)
      refine wp_block ?_
      refine wp_seq (wp_region_lit ?_)
      refine ev_runs 2 hF86 (l':=[(70,nI x68),(69,.slice pa1 K1.length ca1),(11,nI x68),(9,nP z33 0),(7,nP z19 0),(0,nI x5),(1,.slice pa1 K1.length ca1),(2,.slice pa2 K2.length ca2)]) (w':=w79) (by kernel_rfl) ?_
      intro a88 hF87; clear hF86
      obtain ⟨hc89,hm90⟩:=ifTE hm85; clear hm85
      obtain ⟨b91,o92,rfl⟩:=argKX hA1 hc89
      refine ev_one (nP b91 ((o92+x68.toNat * 6))) w79 hF87 (by kernel_rfl) rfl (by kernel_rfl) (run_idxXO rfl rfl (by kernel_rfl) rfl rfl (inR_spec hc89).1 (inR_spec hc89).2 _) (l':=[(71,nP b91 ((o92+x68.toNat * 6))),(70,nI x68),(69,.slice (some ⟨b91,o92,none⟩) K1.length ca1),(11,nI x68),(9,nP z33 0),(7,nP z19 0),(0,nI x5),(1,.slice (some ⟨b91,o92,none⟩) K1.length ca1),(2,.slice pa2 K2.length ca2)]) (by kernel_rfl) ?_
      intro a94 hF93; clear hF87
      refine ev_one (.agg #[nI ((atX kOp09 K1 x68).kind),nI ((atX kOp09 K1 x68).of),nI ((atX kOp09 K1 x68).at'),nI ((atX kOp09 K1 x68).i),nI ((atX kOp09 K1 x68).w),nI ((atX kOp09 K1 x68).to)]) w79 hF93 (by kernel_rfl) rfl (by kernel_rfl) (run_loadV rfl rfl (run_loadA (cs:=[nI ((atX kOp09 K1 x68).kind),nI ((atX kOp09 K1 x68).of),nI ((atX kOp09 K1 x68).at'),nI ((atX kOp09 K1 x68).i),nI ((atX kOp09 K1 x68).w),nI ((atX kOp09 K1 x68).to)]) rfl rfl (by kernel_rfl) (argAtX (cs:=[nI ((atX kOp09 K1 x68).kind),nI ((atX kOp09 K1 x68).of),nI ((atX kOp09 K1 x68).at'),nI ((atX kOp09 K1 x68).i),nI ((atX kOp09 K1 x68).w),nI ((atX kOp09 K1 x68).to)]) hA1 hS81 hc89 rfl))) (l':=[(72,.agg #[nI ((atX kOp09 K1 x68).kind),nI ((atX kOp09 K1 x68).of),nI ((atX kOp09 K1 x68).at'),nI ((atX kOp09 K1 x68).i),nI ((atX kOp09 K1 x68).w),nI ((atX kOp09 K1 x68).to)]),(71,nP b91 ((o92+x68.toNat * 6))),(70,nI x68),(69,.slice (some ⟨b91,o92,none⟩) K1.length ca1),(11,nI x68),(9,nP z33 0),(7,nP z19 0),(0,nI x5),(1,.slice (some ⟨b91,o92,none⟩) K1.length ca1),(2,.slice pa2 K2.length ca2)]) (by kernel_rfl) ?_
      intro a96 hF95; clear hF93
      refine ev_runs 1 hF95 (l':=[(12,nB w79),(72,.agg #[nI ((atX kOp09 K1 x68).kind),nI ((atX kOp09 K1 x68).of),nI ((atX kOp09 K1 x68).at'),nI ((atX kOp09 K1 x68).i),nI ((atX kOp09 K1 x68).w),nI ((atX kOp09 K1 x68).to)]),(71,nP b91 ((o92+x68.toNat * 6))),(70,nI x68),(69,.slice (some ⟨b91,o92,none⟩) K1.length ca1),(11,nI x68),(9,nP z33 0),(7,nP z19 0),(0,nI x5),(1,.slice (some ⟨b91,o92,none⟩) K1.length ca1),(2,.slice pa2 K2.length ca2)]) (w':=w79.alloc (.cells #[nI 0,nI 0,nI 0,nI 0,nI 0,nI 0] 66)) (by kernel_rfl) ?_
      intro a98 hF97; clear hF95
      have hS100:St w0 [] (BlkP (w79.heap.size) 66 #[nI 0,nI 0,nI 0,nI 0,nI 0,nI 0]::RHeapP z33 z34 z35 z36 z37 s66::HeapP z19 z20 s67::ps) (w79.alloc (.cells #[nI 0,nI 0,nI 0,nI 0,nI 0,nI 0] 66)):=St.new hS81 #[nI 0,nI 0,nI 0,nI 0,nI 0,nI 0] 66
      clear hS81
      refine ev_store (.agg #[nI ((atX kOp09 K1 x68).kind),nI ((atX kOp09 K1 x68).of),nI ((atX kOp09 K1 x68).at'),nI ((atX kOp09 K1 x68).i),nI ((atX kOp09 K1 x68).w),nI ((atX kOp09 K1 x68).to)]) #[nI ((atX kOp09 K1 x68).kind),nI ((atX kOp09 K1 x68).of),nI ((atX kOp09 K1 x68).at'),nI ((atX kOp09 K1 x68).i),nI ((atX kOp09 K1 x68).w),nI ((atX kOp09 K1 x68).to)] hF97 (by kernel_rfl) rfl rfl rfl rfl (by kernel_rfl) hS100 (by kernel_rfl) (by kernel_rfl) (by kernel_rfl) (l':=[(12,nB w79),(72,.agg #[nI ((atX kOp09 K1 x68).kind),nI ((atX kOp09 K1 x68).of),nI ((atX kOp09 K1 x68).at'),nI ((atX kOp09 K1 x68).i),nI ((atX kOp09 K1 x68).w),nI ((atX kOp09 K1 x68).to)]),(71,nP b91 ((o92+x68.toNat * 6))),(70,nI x68),(69,.slice (some ⟨b91,o92,none⟩) K1.length ca1),(11,nI x68),(9,nP z33 0),(7,nP z19 0),(0,nI x5),(1,.slice (some ⟨b91,o92,none⟩) K1.length ca1),(2,.slice pa2 K2.length ca2)]) (by kernel_rfl) ?_
      intro w101 a102 hS103 hF104; clear hF97 hS100
      refine wpList_nil ?_
      have hF105:=hF104.keep [0,1,2,7,9,11,12]
      clear hF104
      refine thenN (wp_seq (wp_seq ?_))
      refine joinQ (fun aI wI=>∃ (y106:Bool),Fr 201 aI [(80,.bool (y106)),(12,nB w79),(11,nI x68),(9,nP z33 0),(7,nP z19 0),(0,nI x5),(1,.slice (some ⟨b91,o92,none⟩) K1.length ca1),(2,.slice pa2 K2.length ca2)]∧St w0 [] (BlkP (w79.heap.size) 66 #[nI ((atX kOp09 K1 x68).kind),nI ((atX kOp09 K1 x68).of),nI ((atX kOp09 K1 x68).at'),nI ((atX kOp09 K1 x68).i),nI ((atX kOp09 K1 x68).w),nI ((atX kOp09 K1 x68).to)]::RHeapP z33 z34 z35 z36 z37 s66::HeapP z19 z20 s67::ps) wI∧HeapCycles.j10 K1 k s66 s67 x68 (HeapCycles.l8 K1 K2 k x5 k69) y106=some r0) ?_ ?_
      rotate_left
      · rintro a108 w109 ⟨y106,hF110,hS111,hm112⟩
        clear hF105 hS103 hm90
        unfold HeapCycles.j10 at hm112
        refine thenN ?_
        refine joinQ (fun aI wI=>∃ (x114:Int),Fr 201 aI [(12,nB w79),(11,nI x68),(9,nP z33 0),(7,nP z19 0),(0,nI x5),(1,.slice (some ⟨b91,o92,none⟩) K1.length ca1),(2,.slice pa2 K2.length ca2)]∧St w0 [] (BlkP (w79.heap.size) 66 #[nI x114,nI ((atX kOp09 K1 x68).of),nI ((atX kOp09 K1 x68).at'),nI ((atX kOp09 K1 x68).i),nI ((atX kOp09 K1 x68).w),nI ((atX kOp09 K1 x68).to)]::RHeapP z33 z34 z35 z36 z37 s66::HeapP z19 z20 s67::ps) wI∧HeapCycles.j11 K1 k s66 s67 x68 (HeapCycles.l8 K1 K2 k x5 k69) x114=some r0) ?_ ?_
        rotate_left
        · rintro a116 w117 ⟨x114,hF118,hS119,hm120⟩
          clear hF110 hS111 hm112
          unfold HeapCycles.j11 at hm120
          refine thenN (wp_seq (wp_region_lit ?_))
          refine ev_runs 2 hF118 (l':=[(83,nP z33 0),(82,nP z19 0),(12,nB w79),(11,nI x68),(9,nP z33 0),(7,nP z19 0),(0,nI x5),(1,.slice (some ⟨b91,o92,none⟩) K1.length ca1),(2,.slice pa2 K2.length ca2)]) (w':=w117) (by kernel_rfl) ?_
          intro a123 hF122; clear hF118
          refine ev_one (.agg #[nI x114,nI ((atX kOp09 K1 x68).of),nI ((atX kOp09 K1 x68).at'),nI ((atX kOp09 K1 x68).i),nI ((atX kOp09 K1 x68).w),nI ((atX kOp09 K1 x68).to)]) w117 hF122 (by kernel_rfl) rfl (by kernel_rfl) (run_loadV rfl rfl (run_loadA (cs:=[nI x114,nI ((atX kOp09 K1 x68).of),nI ((atX kOp09 K1 x68).at'),nI ((atX kOp09 K1 x68).i),nI ((atX kOp09 K1 x68).w),nI ((atX kOp09 K1 x68).to)]) rfl rfl (by kernel_rfl) (blk_cells hS119 0 rfl rfl))) (l':=[(84,.agg #[nI x114,nI ((atX kOp09 K1 x68).of),nI ((atX kOp09 K1 x68).at'),nI ((atX kOp09 K1 x68).i),nI ((atX kOp09 K1 x68).w),nI ((atX kOp09 K1 x68).to)]),(83,nP z33 0),(82,nP z19 0),(12,nB w79),(11,nI x68),(9,nP z33 0),(7,nP z19 0),(0,nI x5),(1,.slice (some ⟨b91,o92,none⟩) K1.length ca1),(2,.slice pa2 K2.length ca2)]) (by kernel_rfl) ?_
          intro a125 hF124; clear hF122
          have hS126:=hS119.pick1.pick2
          clear hS119
          refine ev_call 35 #[nP z19 0,nP z33 0,.agg #[nI x114,nI ((atX kOp09 K1 x68).of),nI ((atX kOp09 K1 x68).at'),nI ((atX kOp09 K1 x68).i),nI ((atX kOp09 K1 x68).w),nI ((atX kOp09 K1 x68).to)]] hF124 rfl rfl (by kernel_rfl) rfl (by kernel_rfl) (fun w=>by kernel_rfl) ?_
          obtain ⟨y127,s128,s129,hx130,hm131⟩:=bind3E hm120; clear hm120
          refine (law09_play.ok hS126 hx130).mono ?_
          rintro _ w132 ⟨rfl,hS134⟩ a133 hF135; clear hF124 hS126
          refine ev_runK 1 hF135 [0,1,2,7,9,11,86] (l':=[(86,.bool (!(y127))),(11,nI x68),(9,nP z33 0),(7,nP z19 0),(0,nI x5),(1,.slice (some ⟨b91,o92,none⟩) K1.length ca1),(2,.slice pa2 K2.length ca2)]) (w':=w132) (by kernel_rfl) ?_
          intro a137 hF136; clear hF135
          refine wpList_nil ?_
          have hS138:=hS134.pick2.drop
          clear hS134
          refine thenN ?_
          cases hc139:(!(y127))
          case true =>
           rw [hc139] at hF136
           have hm140:=ifYes hc139 hm131; clear hm131
           refine ev_condT hF136 rfl rfl ?_
           refine wp_seq (wp_region_lit ?_)
           refine ev_runK 1 hF136 [6] (l':=[(6,.bool false)]) (w':=w132) (by kernel_rfl) ?_
           intro a142 hF141; clear hF136
           refine wpList_nil ?_
           have hS143:=hS138.drop.drop
           clear hS138
           refine thenN ?_
           refine wp_ret ?_
           refine blockR ?_
           refine thenR (thenR ?_)
           refine blockR ?_
           refine thenR ?_
           obtain rfl:=Option.some.inj hm140
           refine ev_ret hF141 [6] (.bool false) rfl rfl rfl ?_
           exact ⟨rfl,hS143⟩
          rw [hc139] at hF136
          have hm145:=ifNot hc139 hm131; clear hm131
          refine ev_condF hF136 rfl rfl ?_
          refine wp_skip ?_
          have hF146:=hF136.keep [0,1,2,7,9,11]
          clear hF136
          refine blockN ?_
          refine thenN (wp_region_lit ?_)
          refine ev_runK 3 hF146 [0,1,2,7,9,11] (l':=[(11,nI (IntKind.i64.wrap (x68+1))),(9,nP z33 0),(7,nP z19 0),(0,nI x5),(1,.slice (some ⟨b91,o92,none⟩) K1.length ca1),(2,.slice pa2 K2.length ca2)]) (w':=w132) (by kernel_rfl) ?_
          intro a148 hF147; clear hF146
          refine wpList_nil ?_
          have hS149:=hS138.pick1
          clear hS138
          exact thenN ⟨k69,Nat.lt_succ_self _,s129,s128,IntKind.i64.wrap (x68+1),hF147,hS149,hm145⟩
        · skip
          cases hc150:(y106)
          case true =>
           rw [hc150] at hF110
           have hm151:=ifYes hc150 hm112; clear hm112
           refine ev_condT hF110 rfl rfl ?_
           refine wp_region_lit ?_
           refine ev_runs 1 hF110 (l':=[(81,nB w79),(80,.bool true),(12,nB w79),(11,nI x68),(9,nP z33 0),(7,nP z19 0),(0,nI x5),(1,.slice (some ⟨b91,o92,none⟩) K1.length ca1),(2,.slice pa2 K2.length ca2)]) (w':=w109) (by kernel_rfl) ?_
           intro a153 hF152; clear hF110
           refine ev_store (nI 5) #[nI 5,nI ((atX kOp09 K1 x68).of),nI ((atX kOp09 K1 x68).at'),nI ((atX kOp09 K1 x68).i),nI ((atX kOp09 K1 x68).w),nI ((atX kOp09 K1 x68).to)] hF152 (by kernel_rfl) rfl rfl rfl rfl (by kernel_rfl) hS111 (by kernel_rfl) (by kernel_rfl) (by kernel_rfl) (l':=[(81,nB w79),(80,.bool true),(12,nB w79),(11,nI x68),(9,nP z33 0),(7,nP z19 0),(0,nI x5),(1,.slice (some ⟨b91,o92,none⟩) K1.length ca1),(2,.slice pa2 K2.length ca2)]) (by kernel_rfl) ?_
           intro w154 a155 hS156 hF157; clear hF152 hS111
           refine wpList_nil ?_
           have hF158:=hF157.keep [0,1,2,7,9,11,12]
           clear hF157
           exact thenN ⟨5,hF158,hS156,hm151⟩
          rw [hc150] at hF110
          have hm159:=ifNot hc150 hm112; clear hm112
          refine ev_condF hF110 rfl rfl ?_
          refine wp_skip ?_
          have hF160:=hF110.keep [0,1,2,7,9,11,12]
          clear hF110
          exact thenN ⟨(atX kOp09 K1 x68).kind,hF160,hS111,hm159⟩
      · skip
        refine wp_region_lit ?_
        refine ev_runs 1 hF105 (l':=[(73,nB w79),(12,nB w79),(11,nI x68),(9,nP z33 0),(7,nP z19 0),(0,nI x5),(1,.slice (some ⟨b91,o92,none⟩) K1.length ca1),(2,.slice pa2 K2.length ca2)]) (w':=w101) (by kernel_rfl) ?_
        intro a162 hF161; clear hF105
        refine ev_one (nI ((atX kOp09 K1 x68).kind)) w101 hF161 (by kernel_rfl) rfl (by kernel_rfl) (run_loadV rfl rfl (run_loadS rfl rfl (hS103.cell 0 rfl 0 rfl))) (l':=[(74,nI ((atX kOp09 K1 x68).kind)),(73,nB w79),(12,nB w79),(11,nI x68),(9,nP z33 0),(7,nP z19 0),(0,nI x5),(1,.slice (some ⟨b91,o92,none⟩) K1.length ca1),(2,.slice pa2 K2.length ca2)]) (by kernel_rfl) ?_
        intro a164 hF163; clear hF161
        refine ev_runs 2 hF163 (l':=[(76,.bool (decide (((atX kOp09 K1 x68).kind) ≥ 1))),(75,.bool (decide (((atX kOp09 K1 x68).kind) ≥ 1))),(74,nI ((atX kOp09 K1 x68).kind)),(73,nB w79),(12,nB w79),(11,nI x68),(9,nP z33 0),(7,nP z19 0),(0,nI x5),(1,.slice (some ⟨b91,o92,none⟩) K1.length ca1),(2,.slice pa2 K2.length ca2)]) (w':=w101) (by kernel_rfl) ?_
        intro a166 hF165; clear hF163
        cases hc167:(decide (((atX kOp09 K1 x68).kind) ≥ 1))
        case true =>
         rw [hc167] at hF165
         have hm168:=ifYes hc167 hm90; clear hm90
         refine ev_runs 1 hF165 (l':=[(77,nB w79),(76,.bool true),(75,.bool true),(74,nI ((atX kOp09 K1 x68).kind)),(73,nB w79),(12,nB w79),(11,nI x68),(9,nP z33 0),(7,nP z19 0),(0,nI x5),(1,.slice (some ⟨b91,o92,none⟩) K1.length ca1),(2,.slice pa2 K2.length ca2)]) (w':=w101) (by kernel_rfl) ?_
         intro a170 hF169; clear hF165
         refine ev_one (nI ((atX kOp09 K1 x68).kind)) w101 hF169 (by kernel_rfl) rfl (by kernel_rfl) (run_loadV rfl rfl (run_loadS rfl rfl (hS103.cell 0 rfl 0 rfl))) (l':=[(78,nI ((atX kOp09 K1 x68).kind)),(77,nB w79),(76,.bool true),(75,.bool true),(74,nI ((atX kOp09 K1 x68).kind)),(73,nB w79),(12,nB w79),(11,nI x68),(9,nP z33 0),(7,nP z19 0),(0,nI x5),(1,.slice (some ⟨b91,o92,none⟩) K1.length ca1),(2,.slice pa2 K2.length ca2)]) (by kernel_rfl) ?_
         intro a172 hF171; clear hF169
         refine ev_runK 2 hF171 [0,1,2,7,9,11,12,80] (l':=[(80,.bool (decide (((atX kOp09 K1 x68).kind)≤4))),(12,nB w79),(11,nI x68),(9,nP z33 0),(7,nP z19 0),(0,nI x5),(1,.slice (some ⟨b91,o92,none⟩) K1.length ca1),(2,.slice pa2 K2.length ca2)]) (w':=w101) (by kernel_rfl) ?_
         intro a174 hF173; clear hF171
         refine wpList_nil ?_
         exact thenN ⟨decide (((atX kOp09 K1 x68).kind)≤4),hF173,hS103,hm168⟩
        rw [hc167] at hF165
        have hm175:=ifNot hc167 hm90; clear hm90
        refine ev_runK 4 hF165 [0,1,2,7,9,11,12,80] (l':=[(80,.bool false),(12,nB w79),(11,nI x68),(9,nP z33 0),(7,nP z19 0),(0,nI x5),(1,.slice (some ⟨b91,o92,none⟩) K1.length ca1),(2,.slice pa2 K2.length ca2)]) (w':=w101) (by kernel_rfl) ?_
        intro a177 hF176; clear hF165
        refine wpList_nil ?_
        exact thenN ⟨false,hF176,hS103,hm175⟩
     rw [hc84] at hF80
     have hm178:=ifNot hc84 hm82; clear hm82
     refine ev_condF hF80 rfl rfl ?_
     refine wp_exit ?_
     refine thenE ?_
     refine thenE ?_
     refine blockE ?_
     refine thenN (wp_seq (wp_region_lit ?_))
     have hS180:St w0 [] (RowP (.slice none 0 0) []::RHeapP z33 z34 z35 z36 z37 s66::HeapP z19 z20 s67::ps) w79:=St.nil hS81
     clear hS81
     refine ev_runK 1 hF80 [0,2,7,9,13] (l':=[(13,.slice none 0 0),(9,nP z33 0),(7,nP z19 0),(0,nI x5),(2,.slice pa2 K2.length ca2)]) (w':=w79) (by kernel_rfl) ?_
     intro a182 hF181; clear hF80
     refine wpList_nil (thenN (wp_seq (wp_seq (wp_region_lit ?_))))
     refine ev_runs 1 hF181 (l':=[(14,nI 0),(13,.slice none 0 0),(9,nP z33 0),(7,nP z19 0),(0,nI x5),(2,.slice pa2 K2.length ca2)]) (w':=w79) (by kernel_rfl) ?_
     intro a184 hF183; clear hF181
     refine wpList_nil (thenN ?_)
     refine wp_block ?_
     refine wp_loop_ghost (fun kI aI wI=>∃ (v186:Value) (L185:List Int) (s187:HSt) (x188:Int),Fr 201 aI [(14,nI x188),(13,v186),(9,nP z33 0),(7,nP z19 0),(0,nI x5),(2,.slice pa2 K2.length ca2)]∧St w0 [] (RowP (v186) L185::RHeapP z33 z34 z35 z36 z37 s187::HeapP z19 z20 s67::ps) wI∧HeapCycles.l12 K2 k x5 s67 kI L185 s187 x188=some r0) k ⟨.slice none 0 0,[],s66,0,hF183,hS180,hm178⟩ ?_
     rintro k189 a190 w191 ⟨v186,L185,s187,x188,hF192,hS193,hm194⟩
     clear hF183 hS180 hm178
     rcases k189 with _ | k189
     · cases hm194
     have hm195:HeapCycles.l12b K2 k x5 s67 (HeapCycles.l12 K2 k x5 s67 k189) L185 s187 x188=some r0:=hm194
     clear hm194
     unfold HeapCycles.l12b at hm195
     obtain ⟨hl199,p196,c197,rfl,hp198⟩:=St.shape hS193 0 rfl
     refine wp_seq (wp_seq (wp_region_lit ?_))
     refine ev_runK 4 hF192 [0,2,7,9,13,14,90] (l':=[(90,.bool (decide (x188<(K2.length:Int)))),(14,nI x188),(13,.slice p196 L185.length c197),(9,nP z33 0),(7,nP z19 0),(0,nI x5),(2,.slice pa2 K2.length ca2)]) (w':=w191) (by kernel_rfl) ?_
     intro a201 hF200; clear hF192
     refine wpList_nil (thenN ?_)
     cases hc202:(decide (x188<(K2.length:Int)))
     case true =>
      rw [hc202] at hF200
      have hm203:=ifYes hc202 hm195; clear hm195
      refine ev_condT hF200 rfl rfl ?_
      refine wp_skip ?_
      have hF204:=hF200.keep [0,2,7,9,13,14]
      clear hF200
      refine thenN (wp_seq ?_)
      refine wp_block ?_
      refine wp_region_lit ?_
      refine ev_runs 4 hF204 (l':=[(96,nI x188),(95,.slice pa2 K2.length ca2),(94,nP z33 0),(93,.slice p196 L185.length c197),(14,nI x188),(13,.slice p196 L185.length c197),(9,nP z33 0),(7,nP z19 0),(0,nI x5),(2,.slice pa2 K2.length ca2)]) (w':=w191) (by kernel_rfl) ?_
      intro a206 hF205; clear hF204
      obtain ⟨hc207,hm208⟩:=ifTE hm203; clear hm203
      obtain ⟨b209,o210,rfl⟩:=argK hA2 hc207
      refine ev_one (nP b209 ((o210+x188.toNat))) w191 hF205 (by kernel_rfl) rfl (by kernel_rfl) (run_idxO rfl rfl rfl rfl rfl (inR_spec hc207).1 (inR_spec hc207).2 _) (l':=[(97,nP b209 ((o210+x188.toNat))),(96,nI x188),(95,.slice (some ⟨b209,o210,none⟩) K2.length ca2),(94,nP z33 0),(93,.slice p196 L185.length c197),(14,nI x188),(13,.slice p196 L185.length c197),(9,nP z33 0),(7,nP z19 0),(0,nI x5),(2,.slice (some ⟨b209,o210,none⟩) K2.length ca2)]) (by kernel_rfl) ?_
      intro a212 hF211; clear hF205
      refine ev_one (nI (atI K2 x188)) w191 hF211 (by kernel_rfl) rfl (by kernel_rfl) (run_load1 rfl rfl rfl (argAt hA2 hS193 hc207)) (l':=[(98,nI (atI K2 x188)),(97,nP b209 ((o210+x188.toNat))),(96,nI x188),(95,.slice (some ⟨b209,o210,none⟩) K2.length ca2),(94,nP z33 0),(93,.slice p196 L185.length c197),(14,nI x188),(13,.slice p196 L185.length c197),(9,nP z33 0),(7,nP z19 0),(0,nI x5),(2,.slice (some ⟨b209,o210,none⟩) K2.length ca2)]) (by kernel_rfl) ?_
      intro a214 hF213; clear hF211
      have hS215:=hS193.pick1
      clear hS193
      refine ev_call 44 #[nP z33 0,nI (atI K2 x188)] hF213 rfl rfl (by kernel_rfl) rfl (by kernel_rfl) (fun w=>by kernel_rfl) ?_
      obtain ⟨x216,s217,hx218,hm219⟩:=bind2E hm208; clear hm208
      refine (law09_pick.ok hS215 hx218).mono ?_
      rintro _ w220 ⟨rfl,hS222⟩ a221 hF223; clear hF213 hS215
      refine ev_runs 1 hF223 (l':=[(100,.slice (some ⟨w220.heap.size,0,none⟩) 1 1),(99,nI x216),(98,nI (atI K2 x188)),(97,nP b209 ((o210+x188.toNat))),(96,nI x188),(95,.slice (some ⟨b209,o210,none⟩) K2.length ca2),(94,nP z33 0),(93,.slice p196 L185.length c197),(14,nI x188),(13,.slice p196 L185.length c197),(9,nP z33 0),(7,nP z19 0),(0,nI x5),(2,.slice (some ⟨b209,o210,none⟩) K2.length ca2)]) (w':=w220.alloc (.cells #[nI x216] 3)) (by kernel_rfl) ?_
      intro a225 hF224; clear hF223
      have hS226:=hS222.pick1
      clear hS222
      obtain ⟨L227,hx228,hm229⟩:=bind1E hm219; clear hm219
      refine ev_push 101 (.tmp 93) (.tmp 100) hF224 rfl rfl rfl rfl rfl rfl rfl rfl hS226 hx228 ?_
      intro g230 c231 w232 a233 hS234 hF235; clear hF224 hS226
      refine ev_runK 1 hF235 [0,2,7,9,13,14] (l':=[(13,nS g230 L227 c231),(14,nI x188),(9,nP z33 0),(7,nP z19 0),(0,nI x5),(2,.slice (some ⟨b209,o210,none⟩) K2.length ca2)]) (w':=w232) (by kernel_rfl) ?_
      intro a237 hF236; clear hF235
      refine wpList_nil ?_
      refine blockN ?_
      refine thenN (wp_region_lit ?_)
      refine ev_runK 3 hF236 [0,2,7,9,13,14] (l':=[(14,nI (IntKind.i64.wrap (x188+1))),(13,nS g230 L227 c231),(9,nP z33 0),(7,nP z19 0),(0,nI x5),(2,.slice (some ⟨b209,o210,none⟩) K2.length ca2)]) (w':=w232) (by kernel_rfl) ?_
      intro a239 hF238; clear hF236
      refine wpList_nil ?_
      exact thenN ⟨k189,Nat.lt_succ_self _,nS g230 L227 c231,L227,s217,IntKind.i64.wrap (x188+1),hF238,hS234,hm229⟩
     rw [hc202] at hF200
     have hm240:=ifNot hc202 hm195; clear hm195
     refine ev_condF hF200 rfl rfl ?_
     refine wp_exit ?_
     refine thenE ?_
     refine thenE ?_
     refine blockE ?_
     refine thenN (wp_seq (wp_region_lit ?_))
     refine ev_runs 1 hF200 (l':=[(102,nP z19 0),(90,.bool false),(14,nI x188),(13,.slice p196 L185.length c197),(9,nP z33 0),(7,nP z19 0),(0,nI x5),(2,.slice pa2 K2.length ca2)]) (w':=w191) (by kernel_rfl) ?_
     intro a242 hF241; clear hF200
     have hS243:=hS193.pick2
     clear hS193
     refine ev_call 34 #[nP z19 0] hF241 rfl rfl (by kernel_rfl) rfl (by kernel_rfl) (fun w=>by kernel_rfl) ?_
     refine (p_Arena hS243).mono ?_
     rintro _ w244 ⟨rfl,hS246⟩ a245 hF247; clear hF241 hS243
     refine ev_call 36 #[nP z20 0] hF247 rfl rfl (by kernel_rfl) rfl (by kernel_rfl) (fun w=>by kernel_rfl) ?_
     refine (p_Objects hS246).mono ?_
     rintro _ w248 ⟨z252,rfl,hS250⟩ a249 hF251; clear hF247 hS246
     obtain ⟨hl257,p254,c255,rfl,hp256⟩:=St.shape hS250 1 rfl
     refine ev_runK 1 hF251 [0,7,9,13,15] (l':=[(15,.slice p254 (hObjsF s67.a).length c255),(13,.slice p196 L185.length c197),(9,nP z33 0),(7,nP z19 0),(0,nI x5)]) (w':=w248) (by kernel_rfl) ?_
     intro a259 hF258; clear hF251
     refine wpList_nil (thenN (wp_seq (wp_seq (wp_region_lit ?_))))
     refine ev_runs 2 hF258 (l':=[(106,.slice p196 L185.length c197),(105,nP z19 0),(15,.slice p254 (hObjsF s67.a).length c255),(13,.slice p196 L185.length c197),(9,nP z33 0),(7,nP z19 0),(0,nI x5)]) (w':=w248) (by kernel_rfl) ?_
     intro a261 hF260; clear hF258
     have hS262:=hS250.pick2.pick1
     clear hS250
     refine ev_call 45 #[nP z19 0,.slice p196 L185.length c197] hF260 rfl rfl (by kernel_rfl) rfl (by kernel_rfl) (fun w=>by kernel_rfl) ?_
     obtain ⟨x263,s264,hx265,hm266⟩:=bind2E hm240; clear hm240
     refine (p_Begin hS262 hx265).mono ?_
     rintro _ w267 ⟨rfl,hS269⟩ a268 hF270; clear hF260 hS262
     refine ev_runK 1 hF270 [0,7,9,13,15,108] (l':=[(108,.bool (x263 != 0)),(15,.slice p254 (hObjsF s67.a).length c255),(13,.slice p196 L185.length c197),(9,nP z33 0),(7,nP z19 0),(0,nI x5)]) (w':=w267) (by kernel_rfl) ?_
     intro a272 hF271; clear hF270
     refine wpList_nil (thenN ?_)
     cases hc273:(x263 != 0)
     case true =>
      rw [hc273] at hF271
      have hm274:=ifYes hc273 hm266; clear hm266
      refine ev_condT hF271 rfl rfl ?_
      refine wp_seq (wp_region_lit ?_)
      refine ev_runK 1 hF271 [6] (l':=[(6,.bool false)]) (w':=w267) (by kernel_rfl) ?_
      intro a276 hF275; clear hF271
      refine wpList_nil ?_
      have hS277:=hS269.drop.drop.drop.drop
      clear hS269
      refine thenN ?_
      refine wp_ret ?_
      refine thenR ?_
      obtain rfl:=Option.some.inj hm274
      refine ev_ret hF275 [6] (.bool false) rfl rfl rfl ?_
      exact ⟨rfl,hS277⟩
     rw [hc273] at hF271
     have hm279:=ifNot hc273 hm266; clear hm266
     refine ev_condF hF271 rfl rfl ?_
     refine wp_skip ?_
     have hF280:=hF271.keep [0,7,9,13,15]
     clear hF271
     refine thenN (wp_seq (wp_region_lit ?_))
     have hS282:St w0 [] (RowP (.slice none 0 0) []::HeapP z19 z20 s264::RowP (.slice p196 L185.length c197) L185::RowP (.slice p254 (hObjsF s67.a).length c255) (hObjsF s67.a)::RHeapP z33 z34 z35 z36 z37 s187::ps) w267:=St.nil hS269
     clear hS269
     refine ev_runs 1 hF280 (l':=[(16,.slice none 0 0),(15,.slice p254 (hObjsF s67.a).length c255),(13,.slice p196 L185.length c197),(9,nP z33 0),(7,nP z19 0),(0,nI x5)]) (w':=w267) (by kernel_rfl) ?_
     intro a284 hF283; clear hF280
     refine wpList_nil (thenN (wp_seq (wp_region_lit ?_)))
     refine ev_runs 1 hF283 (l':=[(109,.slice p196 L185.length c197),(16,.slice none 0 0),(15,.slice p254 (hObjsF s67.a).length c255),(13,.slice p196 L185.length c197),(9,nP z33 0),(7,nP z19 0),(0,nI x5)]) (w':=w267) (by kernel_rfl) ?_
     intro a286 hF285; clear hF283
     have hS288:St w0 [] (RowP (.slice none 0 0) []::RowP (.slice none 0 0) []::HeapP z19 z20 s264::RowP (.slice p196 L185.length c197) L185::RowP (.slice p254 (hObjsF s67.a).length c255) (hObjsF s67.a)::RHeapP z33 z34 z35 z36 z37 s187::ps) w267:=St.nil hS282
     clear hS282
     have hS289:=hS288.pick3.pick1
     clear hS288
     obtain ⟨L290,hx291,hm292⟩:=bind1E hm279; clear hm279
     refine ev_appM 47 rfl 110 (.const (.slice none 0 0)) (.tmp 109) hF285 rfl rfl (by kernel_rfl) rfl rfl rfl rfl rfl hS289 hx291 ?_
     intro v293 w294 a295 hS296 hF297; clear hF285 hS289
     obtain ⟨hl301,p298,c299,rfl,hp300⟩:=St.shape hS296 0 rfl
     refine ev_runK 1 hF297 [0,7,9,15,16,17] (l':=[(17,.slice p298 L290.length c299),(16,.slice none 0 0),(15,.slice p254 (hObjsF s67.a).length c255),(9,nP z33 0),(7,nP z19 0),(0,nI x5)]) (w':=w294) (by kernel_rfl) ?_
     intro a303 hF302; clear hF297
     refine wpList_nil ?_
     have hS304:=hS296.pick1.drop
     clear hS296
     refine thenN (wp_seq (wp_region_lit ?_))
     refine ev_runs 1 hF302 (l':=[(18,nI 0),(17,.slice p298 L290.length c299),(16,.slice none 0 0),(15,.slice p254 (hObjsF s67.a).length c255),(9,nP z33 0),(7,nP z19 0),(0,nI x5)]) (w':=w294) (by kernel_rfl) ?_
     intro a306 hF305; clear hF302
     refine wpList_nil (thenN (wp_seq ?_))
     refine wp_block ?_
     refine wp_loop_ghost (fun kI aI wI=>∃ (v308:Value) (L307:List Int) (v310:Value) (L309:List Int) (s311:HSt) (s312:HSt) (x313:Int),Fr 201 aI [(18,nI x313),(17,v308),(16,v310),(15,.slice p254 (hObjsF s67.a).length c255),(9,nP z33 0),(7,nP z19 0),(0,nI x5)]∧St w0 [] (RowP (v308) L307::RowP (v310) L309::HeapP z19 z20 s311::RowP (.slice p254 (hObjsF s67.a).length c255) (hObjsF s67.a)::RHeapP z33 z34 z35 z36 z37 s312::ps) wI∧HeapCycles.l23 k x5 s67 kI L307 L309 s311 s312 x313=some r0) k ⟨.slice p298 L290.length c299,L290,.slice none 0 0,[],s264,s187,0,hF305,hS304,hm292⟩ ?_
     rintro k314 a315 w316 ⟨v308,L307,v310,L309,s311,s312,x313,hF317,hS318,hm319⟩
     clear hF305 hS304 hm292
     rcases k314 with _ | k314
     · cases hm319
     have hm320:HeapCycles.l23b k x5 s67 (HeapCycles.l23 k x5 s67 k314) L307 L309 s311 s312 x313=some r0:=hm319
     clear hm319
     unfold HeapCycles.l23b at hm320
     obtain ⟨hl324,p321,c322,rfl,hp323⟩:=St.shape hS318 0 rfl
     obtain ⟨hl328,p325,c326,rfl,hp327⟩:=St.shape hS318 1 rfl
     refine wp_seq (wp_seq ?_)
     refine joinQ (fun aI wI=>∃ (y329:Bool),Fr 201 aI [(117,.bool (y329)),(18,nI x313),(17,.slice p321 L307.length c322),(16,.slice p325 L309.length c326),(15,.slice p254 (hObjsF s67.a).length c255),(9,nP z33 0),(7,nP z19 0),(0,nI x5)]∧St w0 [] (HeapP z19 z20 s311::RowP (.slice p321 L307.length c322) L307::RowP (.slice p325 L309.length c326) L309::RowP (.slice p254 (hObjsF s67.a).length c255) (hObjsF s67.a)::RHeapP z33 z34 z35 z36 z37 s312::ps) wI∧HeapCycles.j24 k x5 s67 L307 L309 s311 s312 x313 (HeapCycles.l23 k x5 s67 k314) y329=some r0) ?_ ?_
     rotate_left
     · rintro a331 w332 ⟨y329,hF333,hS334,hm335⟩
       clear hF317 hS318 hm320
       unfold HeapCycles.j24 at hm335
       refine thenN ?_
       cases hc337:(y329)
       case true =>
        rw [hc337] at hF333
        have hm338:=ifYes hc337 hm335; clear hm335
        refine ev_condT hF333 rfl rfl ?_
        refine wp_skip ?_
        have hF339:=hF333.keep [0,7,9,15,16,17,18]
        clear hF333
        refine thenN (wp_seq ?_)
        refine wp_block ?_
        refine wp_seq (wp_region_lit ?_)
        refine ev_runs 1 hF339 (l':=[(120,nP z19 0),(18,nI x313),(17,.slice p321 L307.length c322),(16,.slice p325 L309.length c326),(15,.slice p254 (hObjsF s67.a).length c255),(9,nP z33 0),(7,nP z19 0),(0,nI x5)]) (w':=w332) (by kernel_rfl) ?_
        intro a341 hF340; clear hF339
        refine ev_call 46 #[nP z19 0] hF340 rfl rfl (by kernel_rfl) rfl (by kernel_rfl) (fun w=>by kernel_rfl) ?_
        obtain ⟨L342,s343,hx344,hm345⟩:=bind2E hm338; clear hm338
        refine (p_Step hS334 hx344).mono ?_
        rintro _ w346 ⟨z350,rfl,hS348⟩ a347 hF349; clear hF340 hS334
        obtain ⟨hl355,p352,c353,rfl,hp354⟩:=St.shapeG (k:=1) hS348 rfl
        refine ev_runK 1 hF349 [0,7,9,15,16,17,18,19] (l':=[(19,.slice p352 L342.length c353),(18,nI x313),(17,.slice p321 L307.length c322),(16,.slice p325 L309.length c326),(15,.slice p254 (hObjsF s67.a).length c255),(9,nP z33 0),(7,nP z19 0),(0,nI x5)]) (w':=w346) (by kernel_rfl) ?_
        intro a357 hF356; clear hF349
        refine wpList_nil (thenN (wp_seq (wp_region_lit ?_)))
        refine ev_runs 1 hF356 (l':=[(20,nI 0),(19,.slice p352 L342.length c353),(18,nI x313),(17,.slice p321 L307.length c322),(16,.slice p325 L309.length c326),(15,.slice p254 (hObjsF s67.a).length c255),(9,nP z33 0),(7,nP z19 0),(0,nI x5)]) (w':=w346) (by kernel_rfl) ?_
        intro a359 hF358; clear hF356
        refine wpList_nil (thenN ?_)
        refine wp_block ?_
        refine wp_loop_ghost (fun kI aI wI=>∃ (v361:Value) (L360:List Int) (v363:Value) (L362:List Int) (s364:HSt) (x365:Int),Fr 201 aI [(20,nI x365),(19,.slice p352 L342.length c353),(18,nI x313),(17,v361),(16,v363),(15,.slice p254 (hObjsF s67.a).length c255),(9,nP z33 0),(7,nP z19 0),(0,nI x5)]∧St w0 [] (HeapP z19 z20 s343::GonesP (.slice p352 L342.length c353) L342::RowP (v361) L360::RowP (v363) L362::RowP (.slice p254 (hObjsF s67.a).length c255) (hObjsF s67.a)::RHeapP z33 z34 z35 z36 z37 s364::ps) wI∧HeapCycles.l27 x313 (HeapCycles.l23 k x5 s67 k314) L342 s343 kI L360 L362 s364 x365=some r0) k ⟨.slice p321 L307.length c322,L307,.slice p325 L309.length c326,L309,s312,0,hF358,hS348,hm345⟩ ?_
        rintro k366 a367 w368 ⟨v361,L360,v363,L362,s364,x365,hF369,hS370,hm371⟩
        clear hF358 hS348 hm345
        rcases k366 with _ | k366
        · cases hm371
        have hm372:HeapCycles.l27b x313 (HeapCycles.l23 k x5 s67 k314) L342 s343 (HeapCycles.l27 x313 (HeapCycles.l23 k x5 s67 k314) L342 s343 k366) L360 L362 s364 x365=some r0:=hm371
        clear hm371
        unfold HeapCycles.l27b at hm372
        obtain ⟨hl376,p373,c374,rfl,hp375⟩:=St.shape hS370 2 rfl
        obtain ⟨hl380,p377,c378,rfl,hp379⟩:=St.shape hS370 3 rfl
        refine wp_seq (wp_seq (wp_region_lit ?_))
        refine ev_runK 4 hF369 [0,7,9,15,16,17,18,19,20,125] (l':=[(125,.bool (decide (x365<(L342.length:Int)))),(20,nI x365),(19,.slice p352 L342.length c353),(18,nI x313),(17,.slice p373 L360.length c374),(16,.slice p377 L362.length c378),(15,.slice p254 (hObjsF s67.a).length c255),(9,nP z33 0),(7,nP z19 0),(0,nI x5)]) (w':=w368) (by kernel_rfl) ?_
        intro a382 hF381; clear hF369
        refine wpList_nil (thenN ?_)
        cases hc383:(decide (x365<(L342.length:Int)))
        case true =>
         rw [hc383] at hF381
         have hm384:=ifYes hc383 hm372; clear hm372
         refine ev_condT hF381 rfl rfl ?_
         refine wp_skip ?_
         have hF385:=hF381.keep [0,7,9,15,16,17,18,19,20]
         clear hF381
         refine thenN (wp_seq ?_)
         refine wp_block ?_
         refine wp_seq (wp_region_lit ?_)
         refine ev_runs 2 hF385 (l':=[(129,nI x365),(128,.slice p352 L342.length c353),(20,nI x365),(19,.slice p352 L342.length c353),(18,nI x313),(17,.slice p373 L360.length c374),(16,.slice p377 L362.length c378),(15,.slice p254 (hObjsF s67.a).length c255),(9,nP z33 0),(7,nP z19 0),(0,nI x5)]) (w':=w368) (by kernel_rfl) ?_
         intro a387 hF386; clear hF385
         obtain ⟨hc388,hm389⟩:=ifTE hm384; clear hm384
         obtain ⟨g390,rfl⟩:=hp354.resolve_left (by have:=inR_spec hc388; omega)
         refine ev_one (nP g390 ((x365.toNat * 4))) w368 hF386 (by kernel_rfl) rfl (by kernel_rfl) (run_idxX rfl rfl (by kernel_rfl) rfl rfl (inR_spec hc388).1 (inR_spec hc388).2 _) (l':=[(130,nP g390 ((x365.toNat * 4))),(129,nI x365),(128,.slice (some ⟨g390,0,none⟩) L342.length c353),(20,nI x365),(19,.slice (some ⟨g390,0,none⟩) L342.length c353),(18,nI x313),(17,.slice p373 L360.length c374),(16,.slice p377 L362.length c378),(15,.slice p254 (hObjsF s67.a).length c255),(9,nP z33 0),(7,nP z19 0),(0,nI x5)]) (by kernel_rfl) ?_
         intro a392 hF391; clear hF386
         refine ev_runs 1 hF391 (l':=[(131,nP g390 ((x365.toNat * 4+3))),(130,nP g390 ((x365.toNat * 4))),(129,nI x365),(128,.slice (some ⟨g390,0,none⟩) L342.length c353),(20,nI x365),(19,.slice (some ⟨g390,0,none⟩) L342.length c353),(18,nI x313),(17,.slice p373 L360.length c374),(16,.slice p377 L362.length c378),(15,.slice p254 (hObjsF s67.a).length c255),(9,nP z33 0),(7,nP z19 0),(0,nI x5)]) (w':=w368) (by kernel_rfl) ?_
         intro a394 hF393; clear hF391
         refine ev_one (.bool ((atG L342 x365).kept)) w368 hF393 (by kernel_rfl) rfl (by kernel_rfl) (run_loadV rfl rfl (run_loadS rfl rfl (St.atGf (k:=1) hS370 rfl hc388).2.2)) (l':=[(132,.bool ((atG L342 x365).kept)),(131,nP g390 ((x365.toNat * 4+3))),(130,nP g390 ((x365.toNat * 4))),(129,nI x365),(128,.slice (some ⟨g390,0,none⟩) L342.length c353),(20,nI x365),(19,.slice (some ⟨g390,0,none⟩) L342.length c353),(18,nI x313),(17,.slice p373 L360.length c374),(16,.slice p377 L362.length c378),(15,.slice p254 (hObjsF s67.a).length c255),(9,nP z33 0),(7,nP z19 0),(0,nI x5)]) (by kernel_rfl) ?_
         intro a396 hF395; clear hF393
         refine wpList_nil ?_
         have hF397:=hF395.keep [0,7,9,15,16,17,18,19,20,132]
         clear hF395
         refine thenN ?_
         refine joinQ (fun aI wI=>∃ (v399:Value) (L398:List Int) (v401:Value) (L400:List Int) (s402:HSt),Fr 201 aI [(16,v399),(20,nI x365),(19,.slice (some ⟨g390,0,none⟩) L342.length c353),(18,nI x313),(17,v401),(15,.slice p254 (hObjsF s67.a).length c255),(9,nP z33 0),(7,nP z19 0),(0,nI x5)]∧St w0 [] (RowP (v399) L398::HeapP z19 z20 s343::GonesP (.slice (some ⟨g390,0,none⟩) L342.length c353) L342::RowP (v401) L400::RowP (.slice p254 (hObjsF s67.a).length c255) (hObjsF s67.a)::RHeapP z33 z34 z35 z36 z37 s402::ps) wI∧HeapCycles.j28 x365 (HeapCycles.l27 x313 (HeapCycles.l23 k x5 s67 k314) L342 s343 k366) L398 L400 s402=some r0) ?_ ?_
         rotate_left
         · rintro a404 w405 ⟨v399,L398,v401,L400,s402,hF406,hS407,hm408⟩
           clear hF397 hS370 hm389
           unfold HeapCycles.j28 at hm408
           obtain ⟨hl413,p410,c411,rfl,hp412⟩:=St.shape hS407 0 rfl
           obtain ⟨hl417,p414,c415,rfl,hp416⟩:=St.shape hS407 3 rfl
           refine blockN ?_
           refine thenN (wp_region_lit ?_)
           refine ev_runK 3 hF406 [0,7,9,15,16,17,18,19,20] (l':=[(20,nI (IntKind.i64.wrap (x365+1))),(16,.slice p410 L398.length c411),(19,.slice (some ⟨g390,0,none⟩) L342.length c353),(18,nI x313),(17,.slice p414 L400.length c415),(15,.slice p254 (hObjsF s67.a).length c255),(9,nP z33 0),(7,nP z19 0),(0,nI x5)]) (w':=w405) (by kernel_rfl) ?_
           intro a419 hF418; clear hF406
           refine wpList_nil ?_
           have hF420:Fr 201 a419 [(20,nI (IntKind.i64.wrap (x365+1))),(19,.slice (some ⟨g390,0,none⟩) L342.length c353),(18,nI x313),(17,.slice p414 L400.length c415),(16,.slice p410 L398.length c411),(15,.slice p254 (hObjsF s67.a).length c255),(9,nP z33 0),(7,nP z19 0),(0,nI x5)]:=Fr.re hF418 (by kernel_rfl)
           clear hF418
           have hS421:=hS407.pick5.pick5.pick2.pick5.pick5.pick5
           clear hS407
           exact thenN ⟨k366,Nat.lt_succ_self _,.slice p414 L400.length c415,L400,.slice p410 L398.length c411,L398,s402,IntKind.i64.wrap (x365+1),hF420,hS421,hm408⟩
         · skip
           cases hc422:((atG L342 x365).kept)
           case true =>
            rw [hc422] at hF397
            have hm423:=ifYes hc422 hm389; clear hm389
            refine ev_condT hF397 rfl rfl ?_
            refine wp_seq (wp_region_lit ?_)
            refine ev_runs 3 hF397 (l':=[(135,nI x365),(134,.slice (some ⟨g390,0,none⟩) L342.length c353),(133,.slice p373 L360.length c374),(132,.bool true),(20,nI x365),(19,.slice (some ⟨g390,0,none⟩) L342.length c353),(18,nI x313),(17,.slice p373 L360.length c374),(16,.slice p377 L362.length c378),(15,.slice p254 (hObjsF s67.a).length c255),(9,nP z33 0),(7,nP z19 0),(0,nI x5)]) (w':=w368) (by kernel_rfl) ?_
            intro a425 hF424; clear hF397
            refine ev_one (nP g390 ((x365.toNat * 4))) w368 hF424 (by kernel_rfl) rfl (by kernel_rfl) (run_idxX rfl rfl (by kernel_rfl) rfl rfl (inR_spec hc388).1 (inR_spec hc388).2 _) (l':=[(136,nP g390 ((x365.toNat * 4))),(135,nI x365),(134,.slice (some ⟨g390,0,none⟩) L342.length c353),(133,.slice p373 L360.length c374),(132,.bool true),(20,nI x365),(19,.slice (some ⟨g390,0,none⟩) L342.length c353),(18,nI x313),(17,.slice p373 L360.length c374),(16,.slice p377 L362.length c378),(15,.slice p254 (hObjsF s67.a).length c255),(9,nP z33 0),(7,nP z19 0),(0,nI x5)]) (by kernel_rfl) ?_
            intro a427 hF426; clear hF424
            refine ev_runs 1 hF426 (l':=[(137,nP g390 ((x365.toNat * 4+1))),(136,nP g390 ((x365.toNat * 4))),(135,nI x365),(134,.slice (some ⟨g390,0,none⟩) L342.length c353),(133,.slice p373 L360.length c374),(132,.bool true),(20,nI x365),(19,.slice (some ⟨g390,0,none⟩) L342.length c353),(18,nI x313),(17,.slice p373 L360.length c374),(16,.slice p377 L362.length c378),(15,.slice p254 (hObjsF s67.a).length c255),(9,nP z33 0),(7,nP z19 0),(0,nI x5)]) (w':=w368) (by kernel_rfl) ?_
            intro a429 hF428; clear hF426
            refine ev_one (nI ((atG L342 x365).at')) w368 hF428 (by kernel_rfl) rfl (by kernel_rfl) (run_loadV rfl rfl (run_loadS rfl rfl (St.atGf (k:=1) hS370 rfl hc388).2.1)) (l':=[(138,nI ((atG L342 x365).at')),(137,nP g390 ((x365.toNat * 4+1))),(136,nP g390 ((x365.toNat * 4))),(135,nI x365),(134,.slice (some ⟨g390,0,none⟩) L342.length c353),(133,.slice p373 L360.length c374),(132,.bool true),(20,nI x365),(19,.slice (some ⟨g390,0,none⟩) L342.length c353),(18,nI x313),(17,.slice p373 L360.length c374),(16,.slice p377 L362.length c378),(15,.slice p254 (hObjsF s67.a).length c255),(9,nP z33 0),(7,nP z19 0),(0,nI x5)]) (by kernel_rfl) ?_
            intro a431 hF430; clear hF428
            refine ev_runs 1 hF430 (l':=[(139,.slice (some ⟨w368.heap.size,0,none⟩) 1 1),(138,nI ((atG L342 x365).at')),(137,nP g390 ((x365.toNat * 4+1))),(136,nP g390 ((x365.toNat * 4))),(135,nI x365),(134,.slice (some ⟨g390,0,none⟩) L342.length c353),(133,.slice p373 L360.length c374),(132,.bool true),(20,nI x365),(19,.slice (some ⟨g390,0,none⟩) L342.length c353),(18,nI x313),(17,.slice p373 L360.length c374),(16,.slice p377 L362.length c378),(15,.slice p254 (hObjsF s67.a).length c255),(9,nP z33 0),(7,nP z19 0),(0,nI x5)]) (w':=w368.alloc (.cells #[nI ((atG L342 x365).at')] 3)) (by kernel_rfl) ?_
            intro a433 hF432; clear hF430
            have hS434:=hS370.pick2
            clear hS370
            obtain ⟨L435,hx436,hm437⟩:=bind1E hm423; clear hm423
            refine ev_push 140 (.tmp 133) (.tmp 139) hF432 rfl rfl rfl rfl rfl rfl rfl rfl hS434 hx436 ?_
            intro g438 c439 w440 a441 hS442 hF443; clear hF432 hS434
            refine ev_runK 1 hF443 [0,7,9,15,16,17,18,19,20] (l':=[(17,nS g438 L435 c439),(20,nI x365),(19,.slice (some ⟨g390,0,none⟩) L342.length c353),(18,nI x313),(16,.slice p377 L362.length c378),(15,.slice p254 (hObjsF s67.a).length c255),(9,nP z33 0),(7,nP z19 0),(0,nI x5)]) (w':=w440) (by kernel_rfl) ?_
            intro a445 hF444; clear hF443
            refine wpList_nil (thenN ?_)
            have hS446:=hS442.pick2.pick5
            clear hS442
            have hS447:=hS446.drew; clear hS446
            refine any_start (fun wS=>∃ qs,St w0 [] (RHeapXP z33 z34 z35 z36 z37::GonesP (.slice (some ⟨g390,0,none⟩) L342.length c353) L342::qs) wS) 10 #[false,false,false,false,false,false,false,false,false,false] (by kernel_rfl) (by kernel_rfl) (by kernel_rfl) ?_
            refine any_many 9 [(0,some (nP z33 0)),(1,some (nP z33 0)),(2,some (nP z33 0)),(3,some (nP z34 0)),(4,some (.slice (some ⟨g390,0,none⟩) L342.length c353)),(5,some (nI x365)),(6,some (nP g390 ((x365.toNat * 4)))),(7,some (nP g390 ((x365.toNat * 4+1)))),(8,some (nI ((atG L342 x365).at')))] [0,7,9,15,16,17,18,19,20,144,149] #[true,true,true,true,true,true,true,true,true,false] (by rfl) hF444 (by kernel_rfl) (by kernel_rfl) (by exact ⟨fun wS hw=>by kernel_rfl,fun wS hw=>by kernel_rfl,fun wS hw=>by kernel_rfl,fun wS hw=>hw.elim fun qs hw=>run_loadV rfl rfl (run_loadS rfl rfl (St.rhA (k:=0) hw rfl)),fun wS hw=>by kernel_rfl,fun wS hw=>by kernel_rfl,fun wS hw=>run_idxX rfl rfl (by kernel_rfl) rfl rfl (inR_spec hc388).1 (inR_spec hc388).2 _,fun wS hw=>by kernel_rfl,fun wS hw=>hw.elim fun qs hw=>run_loadV rfl rfl (run_loadS rfl rfl (St.atGf (k:=1) hw rfl hc388).2.1),trivial⟩) (fun _ _ _ _ _ h=>h) ⟨_,St.toRX (hS447)⟩ (l':=[(149,nI ((atG L342 x365).at')),(144,nP z34 0),(17,nS g438 L435 c439),(20,nI x365),(19,.slice (some ⟨g390,0,none⟩) L342.length c353),(18,nI x313),(16,.slice p377 L362.length c378),(15,.slice p254 (hObjsF s67.a).length c255),(9,nP z33 0),(7,nP z19 0),(0,nI x5)]) (by kernel_rfl) ?_
            intro a449 hF448; clear hF444
            refine any_call 9 #[true,true,true,true,true,true,true,true,true,true] 47 #[nP z34 0,nI ((atG L342 x365).at'),nI 1,nI 0] hF448 rfl (by kernel_rfl) rfl rfl (by kernel_rfl) rfl (by kernel_rfl) (fun w=>by kernel_rfl) (by kernel_rfl) ?_
            obtain ⟨x450,s451,hx452,hm453⟩:=bind2E hm437; clear hm437
            refine (q_AStore hS447 hx452).mono ?_
            rintro _ w454 ⟨rfl,hS456⟩; clear hS447
            refine ⟨⟨_,St.toRX (hS456)⟩,?_⟩
            intro a455 hF457; clear hF448
            refine any_done (by kernel_rfl) ?_
            have hF458:=hF457.keep [0,7,9,15,16,17,18,19,20]
            clear hF457
            have hF459:Fr 201 a455 [(16,.slice p377 L362.length c378),(20,nI x365),(19,.slice (some ⟨g390,0,none⟩) L342.length c353),(18,nI x313),(17,nS g438 L435 c439),(15,.slice p254 (hObjsF s67.a).length c255),(9,nP z33 0),(7,nP z19 0),(0,nI x5)]:=Fr.re hF458 (by kernel_rfl)
            clear hF458
            have hS460:=hS456.pick5.pick3.pick3.pick4.pick5
            clear hS456
            exact thenN ⟨.slice p377 L362.length c378,L362,nS g438 L435 c439,L435,s451,hF459,hS460,hm453⟩
           rw [hc422] at hF397
           have hm461:=ifNot hc422 hm389; clear hm389
           refine ev_condF hF397 rfl rfl ?_
           refine wp_region_lit ?_
           refine ev_runs 3 hF397 (l':=[(153,nI x365),(152,.slice (some ⟨g390,0,none⟩) L342.length c353),(151,.slice p377 L362.length c378),(132,.bool false),(20,nI x365),(19,.slice (some ⟨g390,0,none⟩) L342.length c353),(18,nI x313),(17,.slice p373 L360.length c374),(16,.slice p377 L362.length c378),(15,.slice p254 (hObjsF s67.a).length c255),(9,nP z33 0),(7,nP z19 0),(0,nI x5)]) (w':=w368) (by kernel_rfl) ?_
           intro a463 hF462; clear hF397
           refine ev_one (nP g390 ((x365.toNat * 4))) w368 hF462 (by kernel_rfl) rfl (by kernel_rfl) (run_idxX rfl rfl (by kernel_rfl) rfl rfl (inR_spec hc388).1 (inR_spec hc388).2 _) (l':=[(154,nP g390 ((x365.toNat * 4))),(153,nI x365),(152,.slice (some ⟨g390,0,none⟩) L342.length c353),(151,.slice p377 L362.length c378),(132,.bool false),(20,nI x365),(19,.slice (some ⟨g390,0,none⟩) L342.length c353),(18,nI x313),(17,.slice p373 L360.length c374),(16,.slice p377 L362.length c378),(15,.slice p254 (hObjsF s67.a).length c255),(9,nP z33 0),(7,nP z19 0),(0,nI x5)]) (by kernel_rfl) ?_
           intro a465 hF464; clear hF462
           refine ev_runs 1 hF464 (l':=[(155,nP g390 ((x365.toNat * 4+1))),(154,nP g390 ((x365.toNat * 4))),(153,nI x365),(152,.slice (some ⟨g390,0,none⟩) L342.length c353),(151,.slice p377 L362.length c378),(132,.bool false),(20,nI x365),(19,.slice (some ⟨g390,0,none⟩) L342.length c353),(18,nI x313),(17,.slice p373 L360.length c374),(16,.slice p377 L362.length c378),(15,.slice p254 (hObjsF s67.a).length c255),(9,nP z33 0),(7,nP z19 0),(0,nI x5)]) (w':=w368) (by kernel_rfl) ?_
           intro a467 hF466; clear hF464
           refine ev_one (nI ((atG L342 x365).at')) w368 hF466 (by kernel_rfl) rfl (by kernel_rfl) (run_loadV rfl rfl (run_loadS rfl rfl (St.atGf (k:=1) hS370 rfl hc388).2.1)) (l':=[(156,nI ((atG L342 x365).at')),(155,nP g390 ((x365.toNat * 4+1))),(154,nP g390 ((x365.toNat * 4))),(153,nI x365),(152,.slice (some ⟨g390,0,none⟩) L342.length c353),(151,.slice p377 L362.length c378),(132,.bool false),(20,nI x365),(19,.slice (some ⟨g390,0,none⟩) L342.length c353),(18,nI x313),(17,.slice p373 L360.length c374),(16,.slice p377 L362.length c378),(15,.slice p254 (hObjsF s67.a).length c255),(9,nP z33 0),(7,nP z19 0),(0,nI x5)]) (by kernel_rfl) ?_
           intro a469 hF468; clear hF466
           refine ev_runs 1 hF468 (l':=[(157,.slice (some ⟨w368.heap.size,0,none⟩) 1 1),(156,nI ((atG L342 x365).at')),(155,nP g390 ((x365.toNat * 4+1))),(154,nP g390 ((x365.toNat * 4))),(153,nI x365),(152,.slice (some ⟨g390,0,none⟩) L342.length c353),(151,.slice p377 L362.length c378),(132,.bool false),(20,nI x365),(19,.slice (some ⟨g390,0,none⟩) L342.length c353),(18,nI x313),(17,.slice p373 L360.length c374),(16,.slice p377 L362.length c378),(15,.slice p254 (hObjsF s67.a).length c255),(9,nP z33 0),(7,nP z19 0),(0,nI x5)]) (w':=w368.alloc (.cells #[nI ((atG L342 x365).at')] 3)) (by kernel_rfl) ?_
           intro a471 hF470; clear hF468
           have hS472:=hS370.pick3
           clear hS370
           obtain ⟨L473,hx474,hm475⟩:=bind1E hm461; clear hm461
           refine ev_push 158 (.tmp 151) (.tmp 157) hF470 rfl rfl rfl rfl rfl rfl rfl rfl hS472 hx474 ?_
           intro g476 c477 w478 a479 hS480 hF481; clear hF470 hS472
           refine ev_runK 1 hF481 [0,7,9,15,16,17,18,19,20] (l':=[(16,nS g476 L473 c477),(20,nI x365),(19,.slice (some ⟨g390,0,none⟩) L342.length c353),(18,nI x313),(17,.slice p373 L360.length c374),(15,.slice p254 (hObjsF s67.a).length c255),(9,nP z33 0),(7,nP z19 0),(0,nI x5)]) (w':=w478) (by kernel_rfl) ?_
           intro a483 hF482; clear hF481
           refine wpList_nil ?_
           exact thenN ⟨nS g476 L473 c477,L473,.slice p373 L360.length c374,L360,s364,hF482,hS480,hm475⟩
        rw [hc383] at hF381
        have hm484:=ifNot hc383 hm372; clear hm372
        refine ev_condF hF381 rfl rfl ?_
        refine wp_exit ?_
        refine thenE ?_
        refine thenE ?_
        refine blockE ?_
        refine blockN ?_
        refine thenN (wp_region_lit ?_)
        refine ev_runK 3 hF381 [0,7,9,15,16,17,18] (l':=[(18,nI (IntKind.i64.wrap (x313+1))),(17,.slice p373 L360.length c374),(16,.slice p377 L362.length c378),(15,.slice p254 (hObjsF s67.a).length c255),(9,nP z33 0),(7,nP z19 0),(0,nI x5)]) (w':=w368) (by kernel_rfl) ?_
        intro a486 hF485; clear hF381
        refine wpList_nil ?_
        have hS487:=hS370.pick1.drop
        clear hS370
        have hS488:=hS487.pick4.pick4.pick2.pick4.pick4
        clear hS487
        exact thenN ⟨k314,Nat.lt_succ_self _,.slice p373 L360.length c374,L360,.slice p377 L362.length c378,L362,s343,s364,IntKind.i64.wrap (x313+1),hF485,hS488,hm484⟩
       rw [hc337] at hF333
       have hm489:=ifNot hc337 hm335; clear hm335
       refine ev_condF hF333 rfl rfl ?_
       refine wp_exit ?_
       refine thenE ?_
       refine thenE ?_
       refine blockE ?_
       refine thenN (wp_seq (wp_region_lit ?_))
       refine ev_runs 2 hF333 (l':=[(160,.slice p321 L307.length c322),(159,nP z33 0),(117,.bool false),(18,nI x313),(17,.slice p321 L307.length c322),(16,.slice p325 L309.length c326),(15,.slice p254 (hObjsF s67.a).length c255),(9,nP z33 0),(7,nP z19 0),(0,nI x5)]) (w':=w332) (by kernel_rfl) ?_
       intro a491 hF490; clear hF333
       have hS492:=hS334.pick1.pick4
       clear hS334
       refine ev_call 48 #[nP z33 0,.slice p321 L307.length c322] hF490 rfl rfl (by kernel_rfl) rfl (by kernel_rfl) (fun w=>by kernel_rfl) ?_
       obtain ⟨L493,s494,hx495,hm496⟩:=bind2E hm489; clear hm489
       refine (ref06_Reach.ok hS492 hx495).mono ?_
       rintro _ w497 ⟨z501,rfl,hS499⟩ a498 hF500; clear hF490 hS492
       obtain ⟨hl506,p503,c504,rfl,hp505⟩:=St.shape hS499 2 rfl
       refine ev_runK 1 hF500 [0,7,15,16,18,21] (l':=[(21,.slice p503 L493.length c504),(18,nI x313),(16,.slice p325 L309.length c326),(15,.slice p254 (hObjsF s67.a).length c255),(7,nP z19 0),(0,nI x5)]) (w':=w497) (by kernel_rfl) ?_
       intro a508 hF507; clear hF500
       refine wpList_nil ?_
       have hS509:=hS499.drop.drop
       clear hS499
       refine thenN (wp_seq (wp_seq (wp_region_lit ?_)))
       refine ev_runs 1 hF507 (l':=[(22,nI 0),(21,.slice p503 L493.length c504),(18,nI x313),(16,.slice p325 L309.length c326),(15,.slice p254 (hObjsF s67.a).length c255),(7,nP z19 0),(0,nI x5)]) (w':=w497) (by kernel_rfl) ?_
       intro a511 hF510; clear hF507
       refine wpList_nil (thenN ?_)
       refine wp_block ?_
       refine wp_loop_ghost (fun kI aI wI=>∃ (x512:Int),Fr 201 aI [(22,nI x512),(21,.slice p503 L493.length c504),(18,nI x313),(16,.slice p325 L309.length c326),(15,.slice p254 (hObjsF s67.a).length c255),(7,nP z19 0),(0,nI x5)]∧St w0 [] (RowP (.slice p503 L493.length c504) L493::HeapP z19 z20 s311::RowP (.slice p325 L309.length c326) L309::RowP (.slice p254 (hObjsF s67.a).length c255) (hObjsF s67.a)::ps) wI∧HeapCycles.l29 k x5 s67 L309 s311 x313 L493 kI x512=some r0) k ⟨0,hF510,hS509,hm496⟩ ?_
       rintro k513 a514 w515 ⟨x512,hF516,hS517,hm518⟩
       clear hF510 hS509 hm496
       rcases k513 with _ | k513
       · cases hm518
       have hm519:HeapCycles.l29b k x5 s67 L309 s311 x313 L493 (HeapCycles.l29 k x5 s67 L309 s311 x313 L493 k513) x512=some r0:=hm518
       clear hm518
       unfold HeapCycles.l29b at hm519
       refine wp_seq (wp_seq (wp_region_lit ?_))
       refine ev_runK 4 hF516 [0,7,15,16,18,21,22,165] (l':=[(165,.bool (decide (x512<((hObjsF s67.a).length:Int)))),(22,nI x512),(21,.slice p503 L493.length c504),(18,nI x313),(16,.slice p325 L309.length c326),(15,.slice p254 (hObjsF s67.a).length c255),(7,nP z19 0),(0,nI x5)]) (w':=w515) (by kernel_rfl) ?_
       intro a521 hF520; clear hF516
       refine wpList_nil (thenN ?_)
       cases hc522:(decide (x512<((hObjsF s67.a).length:Int)))
       case true =>
        rw [hc522] at hF520
        have hm523:=ifYes hc522 hm519; clear hm519
        refine ev_condT hF520 rfl rfl ?_
        refine wp_skip ?_
        have hF524:=hF520.keep [0,7,15,16,18,21,22]
        clear hF520
        refine thenN (wp_seq ?_)
        refine wp_block ?_
        refine wp_seq ?_
        obtain ⟨hc525,hm526⟩:=ifTE hm523; clear hm523
        obtain ⟨g527,rfl⟩:=hp256.resolve_left (by have:=inR_spec hc525; omega)
        have hS528:=hS517.pick3
        clear hS517
        have hS529:=hS528.drew; clear hS528
        refine any_start (fun wS=>∃ qs,St w0 [] (RowP (.slice (some ⟨g527,0,none⟩) (hObjsF s67.a).length c255) (hObjsF s67.a)::qs) wS) 13 #[false,false,false,false,false,false,false,false,false,false,false,false,false] (by kernel_rfl) (by kernel_rfl) (by kernel_rfl) ?_
        refine any_many 10 [(0,some (.slice p503 L493.length c504)),(1,some (.slice (some ⟨g527,0,none⟩) (hObjsF s67.a).length c255)),(2,some (nI x512)),(3,some (nP g527 (x512.toNat))),(4,some (nI (atI (hObjsF s67.a) x512))),(6,some (.slice p325 L309.length c326)),(7,some (.slice (some ⟨g527,0,none⟩) (hObjsF s67.a).length c255)),(8,some (nI x512)),(9,some (nP g527 (x512.toNat))),(10,some (nI (atI (hObjsF s67.a) x512)))] [0,7,15,16,18,21,22,168,172,173,174,178,179,180] #[true,true,true,true,true,false,true,true,true,true,true,false,false] (by rfl) hF524 (by kernel_rfl) (by kernel_rfl) (by exact ⟨fun wS hw=>by kernel_rfl,fun wS hw=>by kernel_rfl,fun wS hw=>by kernel_rfl,fun wS hw=>run_idx rfl rfl rfl rfl rfl (inR_spec hc525).1 (inR_spec hc525).2 _,fun wS hw=>run_load1 rfl rfl rfl (hw.elim fun qs hw=>hw.atI 0 rfl hc525),fun wS hw=>by kernel_rfl,fun wS hw=>by kernel_rfl,fun wS hw=>by kernel_rfl,fun wS hw=>run_idx rfl rfl rfl rfl rfl (inR_spec hc525).1 (inR_spec hc525).2 _,fun wS hw=>run_load1 rfl rfl rfl (hw.elim fun qs hw=>hw.atI 0 rfl hc525),trivial⟩) (fun _ _ _ _ _ h=>h) ⟨_,hS529⟩ (l':=[(178,nI (atI (hObjsF s67.a) x512)),(174,.slice p325 L309.length c326),(172,nI (atI (hObjsF s67.a) x512)),(168,.slice p503 L493.length c504),(22,nI x512),(21,.slice p503 L493.length c504),(18,nI x313),(16,.slice p325 L309.length c326),(15,.slice (some ⟨g527,0,none⟩) (hObjsF s67.a).length c255),(7,nP z19 0),(0,nI x5)]) (by kernel_rfl) ?_
        intro a531 hF530; clear hF524
        have hS532:=hS529.pick1
        clear hS529
        refine any_call 5 #[true,true,true,true,true,true,true,true,true,true,true,false,false] 49 #[.slice p503 L493.length c504,nI (atI (hObjsF s67.a) x512)] hF530 rfl (by kernel_rfl) rfl rfl (by kernel_rfl) rfl (by kernel_rfl) (fun w=>by kernel_rfl) (by kernel_rfl) ?_
        obtain ⟨y533,hx534,hm535⟩:=bind1E hm526; clear hm526
        refine (help_In.ok hS532 hx534).mono ?_
        rintro _ w536 ⟨rfl,hS538⟩; clear hS532
        refine ⟨⟨_,hS538.pick1⟩,?_⟩
        intro a537 hF539; clear hF530
        have hS540:=hS538.pick3
        clear hS538
        refine any_call 11 #[true,true,true,true,true,true,true,true,true,true,true,true,false] 49 #[.slice p325 L309.length c326,nI (atI (hObjsF s67.a) x512)] hF539 rfl (by kernel_rfl) rfl rfl (by kernel_rfl) rfl (by kernel_rfl) (fun w=>by kernel_rfl) (by kernel_rfl) ?_
        obtain ⟨y541,hx542,hm543⟩:=bind1E hm535; clear hm535
        refine (help_In.ok hS540 hx542).mono ?_
        rintro _ w544 ⟨rfl,hS546⟩; clear hS540
        refine ⟨⟨_,hS546.pick2⟩,?_⟩
        intro a545 hF547; clear hF539
        refine any_many 1 [(12,some (.bool ((y533) == (y541))))] [0,7,15,16,18,21,22,180] #[true,true,true,true,true,true,true,true,true,true,true,true,true] (by rfl) hF547 (by kernel_rfl) (by kernel_rfl) (by exact ⟨fun wS hw=>by kernel_rfl,trivial⟩) (fun _ _ _ _ _ h=>h) ⟨_,hS546.pick2⟩ (l':=[(180,.bool ((y533) == (y541))),(22,nI x512),(21,.slice p503 L493.length c504),(18,nI x313),(16,.slice p325 L309.length c326),(15,.slice (some ⟨g527,0,none⟩) (hObjsF s67.a).length c255),(7,nP z19 0),(0,nI x5)]) (by kernel_rfl) ?_
        intro a549 hF548; clear hF547
        refine any_done (by kernel_rfl) ?_
        refine thenN ?_
        cases hc550:((y533) == (y541))
        case true =>
         rw [hc550] at hF548
         have hm551:=ifYes hc550 hm543; clear hm543
         refine ev_condT hF548 rfl rfl ?_
         refine wp_seq (wp_region_lit ?_)
         refine ev_runK 1 hF548 [6] (l':=[(6,.bool false)]) (w':=w544) (by kernel_rfl) ?_
         intro a553 hF552; clear hF548
         refine wpList_nil ?_
         have hS554:=hS546.drop.drop.drop.drop
         clear hS546
         refine thenN ?_
         refine wp_ret ?_
         refine blockR ?_
         refine thenR (thenR ?_)
         refine blockR ?_
         refine thenR ?_
         obtain rfl:=Option.some.inj hm551
         refine ev_ret hF552 [6] (.bool false) rfl rfl rfl ?_
         exact ⟨rfl,hS554⟩
        rw [hc550] at hF548
        have hm556:=ifNot hc550 hm543; clear hm543
        refine ev_condF hF548 rfl rfl ?_
        refine wp_skip ?_
        have hF557:=hF548.keep [0,7,15,16,18,21,22]
        clear hF548
        refine blockN ?_
        refine thenN (wp_region_lit ?_)
        refine ev_runK 3 hF557 [0,7,15,16,18,21,22] (l':=[(22,nI (IntKind.i64.wrap (x512+1))),(21,.slice p503 L493.length c504),(18,nI x313),(16,.slice p325 L309.length c326),(15,.slice (some ⟨g527,0,none⟩) (hObjsF s67.a).length c255),(7,nP z19 0),(0,nI x5)]) (w':=w544) (by kernel_rfl) ?_
        intro a559 hF558; clear hF557
        refine wpList_nil ?_
        have hS560:=hS546.pick2.pick1.pick3.pick3
        clear hS546
        exact thenN ⟨k513,Nat.lt_succ_self _,IntKind.i64.wrap (x512+1),hF558,hS560,hm556⟩
       rw [hc522] at hF520
       have hm561:=ifNot hc522 hm519; clear hm519
       refine ev_condF hF520 rfl rfl ?_
       refine wp_exit ?_
       refine thenE ?_
       refine thenE ?_
       refine blockE ?_
       refine thenN (wp_seq ?_)
       refine joinQ (fun aI wI=>∃ (y562:Bool),Fr 201 aI [(6,.bool (y562))]∧St w0 [] (ps) wI∧HeapCycles.j30 y562=some r0) ?_ ?_
       rotate_left
       · rintro a564 w565 ⟨y562,hF566,hS567,hm568⟩
         clear hF520 hS517 hm561
         unfold HeapCycles.j30 at hm568
         refine thenN ?_
         refine wp_ret ?_
         obtain rfl:=Option.some.inj hm568
         refine ev_ret hF566 [6] (.bool (y562)) rfl rfl rfl ?_
         exact ⟨rfl,hS567⟩
       · skip
         refine wp_region_lit ?_
         refine ev_runs 9 hF520 (l':=[(189,.bool (decide (x313≤(IntKind.i64.wrap ((IntKind.i64.wrap ((IntKind.i64.wrap (2 * ((hObjsF s67.a).length:Int)))+x5))+2))))),(188,.bool (decide (x313≤(IntKind.i64.wrap ((IntKind.i64.wrap ((IntKind.i64.wrap (2 * ((hObjsF s67.a).length:Int)))+x5))+2))))),(187,nI (IntKind.i64.wrap ((IntKind.i64.wrap ((IntKind.i64.wrap (2 * ((hObjsF s67.a).length:Int)))+x5))+2))),(186,nI (IntKind.i64.wrap ((IntKind.i64.wrap (2 * ((hObjsF s67.a).length:Int)))+x5))),(185,nI x5),(184,nI (IntKind.i64.wrap (2 * ((hObjsF s67.a).length:Int)))),(183,nI (((hObjsF s67.a).length:Int))),(182,.slice p254 (hObjsF s67.a).length c255),(181,nI x313),(165,.bool false),(22,nI x512),(21,.slice p503 L493.length c504),(18,nI x313),(16,.slice p325 L309.length c326),(15,.slice p254 (hObjsF s67.a).length c255),(7,nP z19 0),(0,nI x5)]) (w':=w515) (by kernel_rfl) ?_
         intro a572 hF571; clear hF520
         cases hc573:(decide (x313≤(IntKind.i64.wrap ((IntKind.i64.wrap ((IntKind.i64.wrap (2 * ((hObjsF s67.a).length:Int)))+x5))+2))))
         case true =>
          rw [hc573] at hF571
          have hm574:=ifYes hc573 hm561; clear hm561
          refine ev_runs 1 hF571 (l':=[(190,nP z19 0),(189,.bool true),(188,.bool true),(187,nI (IntKind.i64.wrap ((IntKind.i64.wrap ((IntKind.i64.wrap (2 * ((hObjsF s67.a).length:Int)))+x5))+2))),(186,nI (IntKind.i64.wrap ((IntKind.i64.wrap (2 * ((hObjsF s67.a).length:Int)))+x5))),(185,nI x5),(184,nI (IntKind.i64.wrap (2 * ((hObjsF s67.a).length:Int)))),(183,nI (((hObjsF s67.a).length:Int))),(182,.slice p254 (hObjsF s67.a).length c255),(181,nI x313),(165,.bool false),(22,nI x512),(21,.slice p503 L493.length c504),(18,nI x313),(16,.slice p325 L309.length c326),(15,.slice p254 (hObjsF s67.a).length c255),(7,nP z19 0),(0,nI x5)]) (w':=w515) (by kernel_rfl) ?_
          intro a576 hF575; clear hF571
          have hS577:=hS517.pick1
          clear hS517
          refine ev_call 50 #[nP z19 0] hF575 rfl rfl (by kernel_rfl) rfl (by kernel_rfl) (fun w=>by kernel_rfl) ?_
          refine (p_Cycles hS577).mono ?_
          rintro _ w578 ⟨rfl,hS580⟩ a579 hF581; clear hF575 hS577
          refine ev_runs 3 hF581 (l':=[(194,.bool (s311.cy == 1)),(193,.bool (s311.cy == 1)),(192,.bool (s311.cy == 1)),(191,nI (s311.cy)),(190,nP z19 0),(189,.bool true),(188,.bool true),(187,nI (IntKind.i64.wrap ((IntKind.i64.wrap ((IntKind.i64.wrap (2 * ((hObjsF s67.a).length:Int)))+x5))+2))),(186,nI (IntKind.i64.wrap ((IntKind.i64.wrap (2 * ((hObjsF s67.a).length:Int)))+x5))),(185,nI x5),(184,nI (IntKind.i64.wrap (2 * ((hObjsF s67.a).length:Int)))),(183,nI (((hObjsF s67.a).length:Int))),(182,.slice p254 (hObjsF s67.a).length c255),(181,nI x313),(165,.bool false),(22,nI x512),(21,.slice p503 L493.length c504),(18,nI x313),(16,.slice p325 L309.length c326),(15,.slice p254 (hObjsF s67.a).length c255),(7,nP z19 0),(0,nI x5)]) (w':=w578) (by kernel_rfl) ?_
          intro a583 hF582; clear hF581
          cases hc584:(s311.cy == 1)
          case true =>
           rw [hc584] at hF582
           have hm585:=ifYes hc584 hm574; clear hm574
           refine ev_runs 1 hF582 (l':=[(195,nP z19 0),(194,.bool true),(193,.bool true),(192,.bool true),(191,nI (s311.cy)),(190,nP z19 0),(189,.bool true),(188,.bool true),(187,nI (IntKind.i64.wrap ((IntKind.i64.wrap ((IntKind.i64.wrap (2 * ((hObjsF s67.a).length:Int)))+x5))+2))),(186,nI (IntKind.i64.wrap ((IntKind.i64.wrap (2 * ((hObjsF s67.a).length:Int)))+x5))),(185,nI x5),(184,nI (IntKind.i64.wrap (2 * ((hObjsF s67.a).length:Int)))),(183,nI (((hObjsF s67.a).length:Int))),(182,.slice p254 (hObjsF s67.a).length c255),(181,nI x313),(165,.bool false),(22,nI x512),(21,.slice p503 L493.length c504),(18,nI x313),(16,.slice p325 L309.length c326),(15,.slice p254 (hObjsF s67.a).length c255),(7,nP z19 0),(0,nI x5)]) (w':=w578) (by kernel_rfl) ?_
           intro a587 hF586; clear hF582
           refine ev_call 34 #[nP z19 0] hF586 rfl rfl (by kernel_rfl) rfl (by kernel_rfl) (fun w=>by kernel_rfl) ?_
           refine (p_Arena hS580).mono ?_
           rintro _ w588 ⟨rfl,hS590⟩ a589 hF591; clear hF586 hS580
           refine ev_call 36 #[nP z20 0] hF591 rfl rfl (by kernel_rfl) rfl (by kernel_rfl) (fun w=>by kernel_rfl) ?_
           refine (p_Objects hS590).mono ?_
           rintro _ w592 ⟨z596,rfl,hS594⟩ a593 hF595; clear hF591 hS590
           obtain ⟨hl601,p598,c599,rfl,hp600⟩:=St.shape hS594 1 rfl
           refine ev_runs 1 hF595 (l':=[(198,.slice p503 L493.length c504),(197,.slice p598 (hObjsF s311.a).length c599),(196,nP z20 0),(195,nP z19 0),(194,.bool true),(193,.bool true),(192,.bool true),(191,nI (s311.cy)),(190,nP z19 0),(189,.bool true),(188,.bool true),(187,nI (IntKind.i64.wrap ((IntKind.i64.wrap ((IntKind.i64.wrap (2 * ((hObjsF s67.a).length:Int)))+x5))+2))),(186,nI (IntKind.i64.wrap ((IntKind.i64.wrap (2 * ((hObjsF s67.a).length:Int)))+x5))),(185,nI x5),(184,nI (IntKind.i64.wrap (2 * ((hObjsF s67.a).length:Int)))),(183,nI (((hObjsF s67.a).length:Int))),(182,.slice p254 (hObjsF s67.a).length c255),(181,nI x313),(165,.bool false),(22,nI x512),(21,.slice p503 L493.length c504),(18,nI x313),(16,.slice p325 L309.length c326),(15,.slice p254 (hObjsF s67.a).length c255),(7,nP z19 0),(0,nI x5)]) (w':=w592) (by kernel_rfl) ?_
           intro a603 hF602; clear hF595
           have hS604:=hS594.pick2.pick2
           clear hS594
           refine ev_call 51 #[.slice p598 (hObjsF s311.a).length c599,.slice p503 L493.length c504] hF602 rfl rfl (by kernel_rfl) rfl (by kernel_rfl) (fun w=>by kernel_rfl) ?_
           obtain ⟨y605,hx606,hm607⟩:=bind1E hm585; clear hm585
           refine (help_Plain.ok hS604 hx606).mono ?_
           rintro _ w608 ⟨rfl,hS610⟩ a609 hF611; clear hF602 hS604
           refine ev_runK 2 hF611 [6] (l':=[(6,.bool (y605))]) (w':=w608) (by kernel_rfl) ?_
           intro a613 hF612; clear hF611
           refine wpList_nil ?_
           have hS614:=hS610.drop.drop.drop.drop.drop
           clear hS610
           exact thenN ⟨y605,hF612,hS614,hm607⟩
          rw [hc584] at hF582
          have hm615:=ifNot hc584 hm574; clear hm574
          refine ev_runK 7 hF582 [6] (l':=[(6,.bool false)]) (w':=w578) (by kernel_rfl) ?_
          intro a617 hF616; clear hF582
          refine wpList_nil ?_
          have hS618:=hS580.drop.drop.drop.drop
          clear hS580
          exact thenN ⟨false,hF616,hS618,hm615⟩
         rw [hc573] at hF571
         have hm619:=ifNot hc573 hm561; clear hm561
         refine ev_runK 12 hF571 [6] (l':=[(6,.bool false)]) (w':=w515) (by kernel_rfl) ?_
         intro a621 hF620; clear hF571
         refine wpList_nil ?_
         have hS622:=hS517.drop.drop.drop.drop
         clear hS517
         exact thenN ⟨false,hF620,hS622,hm619⟩
     · skip
       refine wp_region_lit ?_
       refine ev_runs 1 hF317 (l':=[(111,nP z19 0),(18,nI x313),(17,.slice p321 L307.length c322),(16,.slice p325 L309.length c326),(15,.slice p254 (hObjsF s67.a).length c255),(9,nP z33 0),(7,nP z19 0),(0,nI x5)]) (w':=w316) (by kernel_rfl) ?_
       intro a624 hF623; clear hF317
       have hS625:=hS318.pick2
       clear hS318
       refine ev_call 37 #[nP z19 0] hF623 rfl rfl (by kernel_rfl) rfl (by kernel_rfl) (fun w=>by kernel_rfl) ?_
       refine (p_Phase hS625).mono ?_
       rintro _ w626 ⟨rfl,hS628⟩ a627 hF629; clear hF623 hS625
       refine ev_runs 2 hF629 (l':=[(114,.bool (s311.ph != 0)),(113,.bool (s311.ph != 0)),(112,nI (s311.ph)),(111,nP z19 0),(18,nI x313),(17,.slice p321 L307.length c322),(16,.slice p325 L309.length c326),(15,.slice p254 (hObjsF s67.a).length c255),(9,nP z33 0),(7,nP z19 0),(0,nI x5)]) (w':=w626) (by kernel_rfl) ?_
       intro a631 hF630; clear hF629
       cases hc632:(s311.ph != 0)
       case true =>
        rw [hc632] at hF630
        have hm633:=ifYes hc632 hm320; clear hm320
        refine ev_runK 3 hF630 [0,7,9,15,16,17,18,117] (l':=[(117,.bool (decide (x313<3000))),(18,nI x313),(17,.slice p321 L307.length c322),(16,.slice p325 L309.length c326),(15,.slice p254 (hObjsF s67.a).length c255),(9,nP z33 0),(7,nP z19 0),(0,nI x5)]) (w':=w626) (by kernel_rfl) ?_
        intro a635 hF634; clear hF630
        refine wpList_nil ?_
        exact thenN ⟨decide (x313<3000),hF634,hS628,hm633⟩
       rw [hc632] at hF630
       have hm636:=ifNot hc632 hm320; clear hm320
       refine ev_runK 3 hF630 [0,7,9,15,16,17,18,117] (l':=[(117,.bool false),(18,nI x313),(17,.slice p321 L307.length c322),(16,.slice p325 L309.length c326),(15,.slice p254 (hObjsF s67.a).length c255),(9,nP z33 0),(7,nP z19 0),(0,nI x5)]) (w':=w626) (by kernel_rfl) ?_
       intro a638 hF637; clear hF630
       refine wpList_nil ?_
       exact thenN ⟨false,hF637,hS628,hm636⟩
   · skip
     refine wp_region_lit ?_
     refine ev_runs 5 hF72 (l':=[(63,.bool (decide (x68<(K1.length:Int)))),(62,.bool (decide (x68<(K1.length:Int)))),(61,nI ((K1.length:Int))),(60,.slice pa1 K1.length ca1),(59,nI x68),(11,nI x68),(9,nP z33 0),(7,nP z19 0),(0,nI x5),(1,.slice pa1 K1.length ca1),(2,.slice pa2 K2.length ca2)]) (w':=w71) (by kernel_rfl) ?_
     intro a640 hF639; clear hF72
     cases hc641:(decide (x68<(K1.length:Int)))
     case true =>
      rw [hc641] at hF639
      have hm642:=ifYes hc641 hm75; clear hm75
      refine ev_runK 3 hF639 [0,1,2,7,9,11,66] (l':=[(66,.bool (decide (x68<80))),(11,nI x68),(9,nP z33 0),(7,nP z19 0),(0,nI x5),(1,.slice pa1 K1.length ca1),(2,.slice pa2 K2.length ca2)]) (w':=w71) (by kernel_rfl) ?_
      intro a644 hF643; clear hF639
      refine wpList_nil ?_
      exact thenN ⟨decide (x68<80),hF643,hS73,hm642⟩
     rw [hc641] at hF639
     have hm645:=ifNot hc641 hm75; clear hm75
     refine ev_runK 3 hF639 [0,1,2,7,9,11,66] (l':=[(66,.bool false),(11,nI x68),(9,nP z33 0),(7,nP z19 0),(0,nI x5),(1,.slice pa1 K1.length ca1),(2,.slice pa2 K2.length ca2)]) (w':=w71) (by kernel_rfl) ?_
     intro a647 hF646; clear hF639
     refine wpList_nil ?_
     exact thenN ⟨false,hF646,hS73,hm645⟩
 · skip
   refine wp_region_lit ?_
   refine ev_call 33 #[] hF39 rfl rfl (by kernel_rfl) rfl (by kernel_rfl) (fun w=>by kernel_rfl) ?_
   obtain ⟨y648,hx649,hm650⟩:=bind1E hm28; clear hm28
   refine (law09_awake.ok hS31 hx649).mono ?_
   rintro _ w651 ⟨rfl,hS653⟩ a652 hF654; clear hF39 hS31
   refine ev_runs 2 hF654 (l':=[(40,.bool (!(y648))),(39,.bool (!(y648))),(38,.bool (y648)),(9,nP z33 0),(8,nI 0),(7,nP z19 0),(0,nI x5),(1,.slice pa1 K1.length ca1),(2,.slice pa2 K2.length ca2)]) (w':=w651) (by kernel_rfl) ?_
   intro a656 hF655; clear hF654
   cases hc657:(!(y648))
   case true =>
    rw [hc657] at hF655
    have hm658:=ifYes hc657 hm650; clear hm650
    refine ev_runK 17 hF655 [0,1,2,7,9,57] (l':=[(57,.bool true),(9,nP z33 0),(7,nP z19 0),(0,nI x5),(1,.slice pa1 K1.length ca1),(2,.slice pa2 K2.length ca2)]) (w':=w651) (by kernel_rfl) ?_
    intro a660 hF659; clear hF655
    refine wpList_nil ?_
    exact thenN ⟨true,hF659,hS653,hm658⟩
   rw [hc657] at hF655
   have hm661:=ifNot hc657 hm650; clear hm650
   refine ev_runs 9 hF655 (l':=[(49,nP z19 0),(48,.bool false),(47,.bool false),(46,.bool false),(45,nP z19 0),(44,.bool false),(43,.bool false),(42,.bool false),(41,nI 0),(40,.bool false),(39,.bool false),(38,.bool (y648)),(9,nP z33 0),(8,nI 0),(7,nP z19 0),(0,nI x5),(1,.slice pa1 K1.length ca1),(2,.slice pa2 K2.length ca2)]) (w':=w651) (by kernel_rfl) ?_
   intro a663 hF662; clear hF655
   have hS664:=hS653.pick1
   clear hS653
   refine ev_call 34 #[nP z19 0] hF662 rfl rfl (by kernel_rfl) rfl (by kernel_rfl) (fun w=>by kernel_rfl) ?_
   refine (p_Arena hS664).mono ?_
   rintro _ w665 ⟨rfl,hS667⟩ a666 hF668; clear hF662 hS664
   refine ev_runK 7 hF668 [0,1,2,7,9,57] (l':=[(57,.bool (decide ((K2.length:Int) > 20))),(9,nP z33 0),(7,nP z19 0),(0,nI x5),(1,.slice pa1 K1.length ca1),(2,.slice pa2 K2.length ca2)]) (w':=w665) (by kernel_rfl) ?_
   intro a670 hF669; clear hF668
   refine wpList_nil ?_
   have hS671:=hS667.pick1
   clear hS667
   exact thenN ⟨decide ((K2.length:Int) > 20),hF669,hS671,hm661⟩
end Go.Proofs.YtffnjpapggidlaaGreat
