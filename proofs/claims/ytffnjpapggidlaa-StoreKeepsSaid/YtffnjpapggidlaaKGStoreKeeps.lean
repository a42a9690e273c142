/- GStoreKeeps -/
import Derived.Test.YtffnjpapggidlaaKGStore
import Derived.Test.YtffnjpapggidlaaKGPlayC
import Derived.Deep.LoopGhost
import Derived.KernelRfl
namespace Go.Proofs.Ytffnjpapggidlaa
open Go.RowKit
set_option linter.unusedVariables false
def StoreKeeps.j14 (x248:Int) (rec251:HSt→Int→Option (Bool)) (s281:HSt) (y299:Bool):Option (Bool):=(if (y299) then some (false) else rec251 s281 (IntKind.i64.wrap (x248+1)))
def StoreKeeps.j13 (k:Nat) (x42:Int) (x43:Int) (x44:Int) (L84:List Int) (s247:HSt) (x248:Int) (rec251:HSt→Int→Option (Bool)) (x265:Int):Option (Bool):=(if (inR (0:Int) L84.length) then bind1 (store_Heap.m k s247 x42 x43 x44) fun s281=>bind2 (pLoad (atI L84 (0:Int)) x248 s281) fun x289 x290=>(if (x289 != x265) then StoreKeeps.j14 x248 rec251 s281 true else StoreKeeps.j14 x248 rec251 s281 (x290 != 0)) else none)
def StoreKeeps.l12b (K1:List Int) (k:Nat) (x42:Int) (x43:Int) (x44:Int) (L84:List Int) (rec251:HSt→Int→Option (Bool)) (s247:HSt) (x248:Int):Option (Bool):=(if (decide (x248<10)) then (if (decide (x248<(K1.length:Int))) then (if (inR x248 K1.length) then bind1 (some (wrap64 ((Int.tmod (atI K1 x248) 1000) * 2))) fun x347=>StoreKeeps.j13 k x42 x43 x44 L84 s247 x248 rec251 x347 else none) else StoreKeeps.j13 k x42 x43 x44 L84 s247 x248 rec251 0) else some (true))
def StoreKeeps.l12 (K1:List Int) (k:Nat) (x42:Int) (x43:Int) (x44:Int) (L84:List Int):Nat→HSt→Int→Option (Bool)
  | 0=>fun _ _=>none
  | kI+1=>StoreKeeps.l12b K1 k x42 x43 x44 L84 (StoreKeeps.l12 K1 k x42 x43 x44 L84 kI)
def StoreKeeps.l7b (K1:List Int) (k:Nat) (x34:Int) (x42:Int) (x43:Int) (x44:Int) (L84:List Int) (rec190:HSt→Int→Option (Bool)) (s186:HSt) (x187:Int):Option (Bool):=(if (decide (x187<x34)) then bind4 (store_Alloc.m k s186 x42 x43 x44 [(⟨2,IntKind.i64.wrap (1+(Int.tmod x187 3))⟩:Nd)] L84) fun L207 L208 x209 s210=>(if (x209 != 0) then some (false) else rec190 s210 (IntKind.i64.wrap (x187+1))) else StoreKeeps.l12 K1 k x42 x43 x44 L84 k s186 0)
def StoreKeeps.l7 (K1:List Int) (k:Nat) (x34:Int) (x42:Int) (x43:Int) (x44:Int) (L84:List Int):Nat→HSt→Int→Option (Bool)
  | 0=>fun _ _=>none
  | kI+1=>StoreKeeps.l7b K1 k x34 x42 x43 x44 L84 (StoreKeeps.l7 K1 k x34 x42 x43 x44 L84 kI)
def StoreKeeps.j6 (K1:List Int) (k:Nat) (x34:Int) (x42:Int) (x43:Int) (x44:Int) (L84:List Int) (s127:HSt) (x128:Int) (rec131:HSt→Int→Option (Bool)) (y136:Bool):Option (Bool):=(if (y136) then (if (inR (0:Int) L84.length) then (if (inR x128 K1.length) then bind1 (store_Heap.m k s127 x42 x43 x44) fun s159=>bind2 (pStore (atI L84 (0:Int)) x128 (wrap64 ((Int.tmod (atI K1 x128) 1000) * 2)) s159) fun x171 s172=>rec131 s172 (IntKind.i64.wrap (x128+1)) else none) else none) else StoreKeeps.l7 K1 k x34 x42 x43 x44 L84 k s127 0)
def StoreKeeps.l5b (K1:List Int) (k:Nat) (x34:Int) (x42:Int) (x43:Int) (x44:Int) (L84:List Int) (rec131:HSt→Int→Option (Bool)) (s127:HSt) (x128:Int):Option (Bool):=(if (decide (x128<(K1.length:Int))) then StoreKeeps.j6 K1 k x34 x42 x43 x44 L84 s127 x128 rec131 (decide (x128<10)) else StoreKeeps.j6 K1 k x34 x42 x43 x44 L84 s127 x128 rec131 false)
def StoreKeeps.l5 (K1:List Int) (k:Nat) (x34:Int) (x42:Int) (x43:Int) (x44:Int) (L84:List Int):Nat→HSt→Int→Option (Bool)
  | 0=>fun _ _=>none
  | kI+1=>StoreKeeps.l5b K1 k x34 x42 x43 x44 L84 (StoreKeeps.l5 K1 k x34 x42 x43 x44 L84 kI)
def StoreKeeps.j2 (K1:List Int) (k:Nat) (x34:Int) (x42:Int) (x43:Int) (x44:Int) (L84:List Int) (s87:HSt) (y109:Bool):Option (Bool):=(if (y109) then some (false) else StoreKeeps.l5 K1 k x34 x42 x43 x44 L84 k s87 0)
def StoreKeeps.j1 (K1:List Int) (k:Nat) (x34:Int) (x42:Int) (x43:Int) (x44:Int) (s60:HSt) (y61:Bool):Option (Bool):=(if (y61) then some (false) else bind4 (store_Alloc.m k s60 x42 x43 x44 [(⟨4,0⟩:Nd)] []) fun L84 L85 x86 s87=>(if (x86 != 0) then StoreKeeps.j2 K1 k x34 x42 x43 x44 L84 s87 true else StoreKeeps.j2 K1 k x34 x42 x43 x44 L84 s87 ((L84.length:Int) != 1)))
def StoreKeeps.m (k:Nat) (i0:Cf) (K1:List Int) (i2:Int):Option (Bool):=bind1 (play_Config.m k (⟨i0.spans,i0.start,i0.assist⟩:Cf)) fun q9=>bind1 (some (IntKind.i64.wrap (Int.tmod (IntKind.u64.wrap i2) 120))) fun x34=>bind5 (store_New.m k (⟨IntKind.i64.wrap (3+(Int.tmod q9.spans 5)),q9.start,q9.assist⟩:Cf)) fun s41 x42 x43 x44 x45=>bind1 (law21_awake.m k ) fun y377=>(if (!(y377)) then StoreKeeps.j1 K1 k x34 x42 x43 x44 s41 true else (if (x45 != 0) then StoreKeeps.j1 K1 k x34 x42 x43 x44 s41 true else bind1 (store_Heap.m k s41 x42 x43 x44) fun s400=>StoreKeeps.j1 K1 k x34 x42 x43 x44 s400 false))
set_option maxRecDepth 100000 in
set_option maxHeartbeats 40000000 in
theorem StoreKeeps.ok {w0 w:World} {ps:List Piece} {k:Nat} {i0:Cf} {pa1:Option Addr} {ca1:Nat} {K1:List Int} (hA1:ArgInts w0 (.slice pa1 K1.length ca1) K1) {i2:Int} {r0:Bool} (hS:St w0 [] (ps) w) (hm:StoreKeeps.m k i0 K1 i2=some r0) :
    Calls Try.prog 6 #[.agg #[nI (i0.spans),nI (i0.start),nI (i0.assist)],.slice pa1 K1.length ca1,nI i2] w fun e w'=>e=.returned (.bool r0)∧St w0 [] (ps) w':=by
 refine ev_enterL 140 [.agg #[nI (i0.spans),nI (i0.start),nI (i0.assist)],.slice pa1 K1.length ca1,nI i2] Try.func6 rfl rfl (by simp) ?_
 intro a hF
 have hF0:Fr 140 a [(0,.agg #[nI (i0.spans),nI (i0.start),nI (i0.assist)]),(1,.slice pa1 K1.length ca1),(2,nI i2)]:=hF; clear hF
 unfold StoreKeeps.m at hm
 refine wp_seq (wp_region_lit ?_)
 refine ev_runs 1 hF0 (l':=[(3,nB w),(0,.agg #[nI (i0.spans),nI (i0.start),nI (i0.assist)]),(1,.slice pa1 K1.length ca1),(2,nI i2)]) (w':=w.alloc (.cells #[nI (i0.spans),nI (i0.start),nI (i0.assist)] 60)) (by kernel_rfl) ?_
 intro a2 hF1; clear hF0
 have hS4:St w0 [] (BlkP (w.heap.size) 60 #[nI (i0.spans),nI (i0.start),nI (i0.assist)]::ps) (w.alloc (.cells #[nI (i0.spans),nI (i0.start),nI (i0.assist)] 60)):=St.new hS #[nI (i0.spans),nI (i0.start),nI (i0.assist)] 60
 refine ev_runK 1 hF1 [1,2,3] (l':=[(3,nB w),(1,.slice pa1 K1.length ca1),(2,nI i2)]) (w':=w.alloc (.cells #[nI (i0.spans),nI (i0.start),nI (i0.assist)] 60)) (by kernel_rfl) ?_
 intro a6 hF5; clear hF1
 refine wpList_nil (thenN (wp_seq (wp_region_lit ?_)))
 refine ev_one (.agg #[nI (i0.spans),nI (i0.start),nI (i0.assist)]) (w.alloc (.cells #[nI (i0.spans),nI (i0.start),nI (i0.assist)] 60)) hF5 (by kernel_rfl) rfl (by kernel_rfl) (run_loadV rfl rfl (run_loadA (cs:=[nI (i0.spans),nI (i0.start),nI (i0.assist)]) rfl rfl (by kernel_rfl) (blk_cells hS4 0 rfl rfl))) (l':=[(21,.agg #[nI (i0.spans),nI (i0.start),nI (i0.assist)]),(3,nB w),(1,.slice pa1 K1.length ca1),(2,nI i2)]) (by kernel_rfl) ?_
 intro a8 hF7; clear hF5
 refine ev_call 36 #[.agg #[nI (i0.spans),nI (i0.start),nI (i0.assist)]] hF7 rfl rfl (by kernel_rfl) rfl (by kernel_rfl) (fun w=>by kernel_rfl) ?_
 obtain ⟨q9,hx10,hm11⟩:=bind1E hm; clear hm
 refine (play_Config.ok hS4 hx10).mono ?_
 rintro _ w12 ⟨rfl,hS14⟩ a13 hF15; clear hF7 hS4
 refine ev_store (.agg #[nI (q9.spans),nI (q9.start),nI (q9.assist)]) #[nI (q9.spans),nI (q9.start),nI (q9.assist)] hF15 (by kernel_rfl) rfl rfl rfl rfl (by kernel_rfl) hS14 (by kernel_rfl) (by kernel_rfl) (by kernel_rfl) (l':=[(22,.agg #[nI (q9.spans),nI (q9.start),nI (q9.assist)]),(21,.agg #[nI (i0.spans),nI (i0.start),nI (i0.assist)]),(3,nB w),(1,.slice pa1 K1.length ca1),(2,nI i2)]) (by kernel_rfl) ?_
 intro w16 a17 hS18 hF19; clear hF15 hS14
 refine wpList_nil ?_
 have hF20:=hF19.keep [1,2,3]
 clear hF19
 refine thenN (wp_seq (wp_region_lit ?_))
 refine ev_runs 1 hF20 (l':=[(23,nB w),(3,nB w),(1,.slice pa1 K1.length ca1),(2,nI i2)]) (w':=w16) (by kernel_rfl) ?_
 intro a22 hF21; clear hF20
 refine ev_one (nI (q9.spans)) w16 hF21 (by kernel_rfl) rfl (by kernel_rfl) (run_loadV rfl rfl (run_loadS rfl rfl (hS18.cell 0 rfl 0 rfl))) (l':=[(24,nI (q9.spans)),(23,nB w),(3,nB w),(1,.slice pa1 K1.length ca1),(2,nI i2)]) (by kernel_rfl) ?_
 intro a24 hF23; clear hF21
 refine ev_runs 3 hF23 (l':=[(27,nB w),(26,nI (IntKind.i64.wrap (3+(Int.tmod q9.spans 5)))),(25,nI (Int.tmod q9.spans 5)),(24,nI (q9.spans)),(23,nB w),(3,nB w),(1,.slice pa1 K1.length ca1),(2,nI i2)]) (w':=w16) (by kernel_rfl) ?_
 intro a26 hF25; clear hF23
 refine ev_store (nI (IntKind.i64.wrap (3+(Int.tmod q9.spans 5)))) #[nI (IntKind.i64.wrap (3+(Int.tmod q9.spans 5))),nI (q9.start),nI (q9.assist)] hF25 (by kernel_rfl) rfl rfl rfl rfl (by kernel_rfl) hS18 (by kernel_rfl) (by kernel_rfl) (by kernel_rfl) (l':=[(27,nB w),(26,nI (IntKind.i64.wrap (3+(Int.tmod q9.spans 5)))),(25,nI (Int.tmod q9.spans 5)),(24,nI (q9.spans)),(23,nB w),(3,nB w),(1,.slice pa1 K1.length ca1),(2,nI i2)]) (by kernel_rfl) ?_
 intro w27 a28 hS29 hF30; clear hF25 hS18
 refine wpList_nil ?_
 have hF31:=hF30.keep [1,2,3]
 clear hF30
 refine thenN (wp_seq (wp_region_lit ?_))
 refine ev_runs 5 hF31 (l':=[(2,nI (IntKind.i64.wrap (Int.tmod (IntKind.u64.wrap i2) 120))),(31,nI (IntKind.i64.wrap (Int.tmod (IntKind.u64.wrap i2) 120))),(30,.int .u64 (Int.tmod (IntKind.u64.wrap i2) 120)),(29,.int .u64 (IntKind.u64.wrap i2)),(28,nI i2),(3,nB w),(1,.slice pa1 K1.length ca1)]) (w':=w27) (by kernel_rfl) ?_
 intro a33 hF32; clear hF31
 obtain ⟨x34,hx35,hm36⟩:=bind1E hm11; clear hm11
 have hF37:=hF32; rw [Option.some.inj hx35] at hF37; clear hF32
 refine wpList_nil ?_
 have hF38:=hF37.keep [1,2,3]
 clear hF37
 refine thenN (wp_seq (wp_region_lit ?_))
 refine ev_one (.agg #[nI (IntKind.i64.wrap (3+(Int.tmod q9.spans 5))),nI (q9.start),nI (q9.assist)]) w27 hF38 (by kernel_rfl) rfl (by kernel_rfl) (run_loadV rfl rfl (run_loadA (cs:=[nI (IntKind.i64.wrap (3+(Int.tmod q9.spans 5))),nI (q9.start),nI (q9.assist)]) rfl rfl (by kernel_rfl) (blk_cells hS29 0 rfl rfl))) (l':=[(33,.agg #[nI (IntKind.i64.wrap (3+(Int.tmod q9.spans 5))),nI (q9.start),nI (q9.assist)]),(2,nI x34),(3,nB w),(1,.slice pa1 K1.length ca1)]) (by kernel_rfl) ?_
 intro a40 hF39; clear hF38
 refine ev_call 37 #[.agg #[nI (IntKind.i64.wrap (3+(Int.tmod q9.spans 5))),nI (q9.start),nI (q9.assist)]] hF39 rfl rfl (by kernel_rfl) rfl (by kernel_rfl) (fun w=>by kernel_rfl) ?_
 obtain ⟨s41,x42,x43,x44,x45,hx46,hm47⟩:=bind5E hm36; clear hm36
 refine (store_New.ok hS29 hx46).mono ?_
 rintro _ w48 ⟨z52,z53,z54,rfl,hS50⟩ a49 hF51; clear hF39 hS29
 refine ev_runK 5 hF51 [1,2,7,8] (l':=[(8,nI x45),(7,nP z52 0),(2,nI x34),(1,.slice pa1 K1.length ca1)]) (w':=w48) (by kernel_rfl) ?_
 intro a58 hF57; clear hF51
 refine wpList_nil ?_
 have hS59:=hS50.pick2.drop
 clear hS50
 refine thenN (wp_seq (wp_seq ?_))
 refine joinQ (fun aI wI=>∃ (s60:HSt) (y61:Bool),Fr 140 aI [(51,.bool (y61)),(7,nP z52 0),(2,nI x34),(1,.slice pa1 K1.length ca1)]∧St w0 [] (BlkP z52 111 #[nP z53 0,nI x42,nI x43,nI x44]::HeapP z53 z54 s60::ps) wI∧StoreKeeps.j1 K1 k x34 x42 x43 x44 s60 y61=some r0) ?_ ?_
 rotate_left
 · rintro a63 w64 ⟨s60,y61,hF65,hS66,hm67⟩
   clear hF57 hS59 hm47
   unfold StoreKeeps.j1 at hm67
   refine thenN ?_
   cases hc69:(y61)
   case true =>
    rw [hc69] at hF65
    have hm70:=ifYes hc69 hm67; clear hm67
    refine ev_condT hF65 rfl rfl ?_
    refine wp_seq (wp_region_lit ?_)
    refine ev_runK 1 hF65 [6] (l':=[(6,.bool false)]) (w':=w64) (by kernel_rfl) ?_
    intro a72 hF71; clear hF65
    refine wpList_nil ?_
    have hS73:=hS66.drop.drop
    clear hS66
    refine thenN ?_
    refine wp_ret ?_
    refine thenR ?_
    obtain rfl:=Option.some.inj hm70
    refine ev_ret hF71 [6] (.bool false) rfl rfl rfl ?_
    exact ⟨rfl,hS73⟩
   rw [hc69] at hF65
   have hm75:=ifNot hc69 hm67; clear hm67
   refine ev_condF hF65 rfl rfl ?_
   refine wp_skip ?_
   have hF76:=hF65.keep [1,2,7]
   clear hF65
   refine thenN (wp_seq (wp_region_lit ?_))
   refine ev_runs 3 hF76 (l':=[(55,.slice (some ⟨w64.heap.size,0,none⟩) 1 1),(54,.agg #[nI 4,nI 0]),(53,nP z52 0),(7,nP z52 0),(2,nI x34),(1,.slice pa1 K1.length ca1)]) (w':=w64.alloc (.cells #[nI 4,nI 0] 74)) (by kernel_rfl) ?_
   intro a79 hF78; clear hF76
   have hS80:St w0 [] (RowX kNd (.slice (some ⟨w64.heap.size,0,none⟩) 1 1) [(⟨4,0⟩:Nd)]::BlkP z52 111 #[nP z53 0,nI x42,nI x43,nI x44]::HeapP z53 z54 s60::ps) (w64.alloc (.cells #[nI 4,nI 0] 74)):=St.litX kNd hS66 [(⟨4,0⟩:Nd)] (by unfold maxLen; simp)
   clear hS66
   have hS82:St w0 [] (RowP (.slice none 0 0) []::RowX kNd (.slice (some ⟨w64.heap.size,0,none⟩) 1 1) [(⟨4,0⟩:Nd)]::BlkP z52 111 #[nP z53 0,nI x42,nI x43,nI x44]::HeapP z53 z54 s60::ps) (w64.alloc (.cells #[nI 4,nI 0] 74)):=St.nil hS80
   clear hS80
   have hS83:=hS82.pick1.pick3.pick3
   clear hS82
   refine ev_call 43 #[nP z52 0,.slice (some ⟨w64.heap.size,0,none⟩) 1 1,.slice none 0 0] hF78 rfl rfl (by kernel_rfl) rfl (by kernel_rfl) (fun w=>by kernel_rfl) ?_
   obtain ⟨L84,L85,x86,s87,hx88,hm89⟩:=bind4E hm75; clear hm75
   refine (store_Alloc.ok hS83 hx88).mono ?_
   rintro _ w90 ⟨z94,z95,rfl,hS92⟩ a91 hF93; clear hF78 hS83
   obtain ⟨hl101,p98,c99,rfl,hp100⟩:=St.shape hS92 4 rfl
   obtain ⟨hl105,p102,c103,rfl,hp104⟩:=St.shapeG (k:=5) hS92 rfl
   refine ev_runK 7 hF93 [1,2,7,9,11] (l':=[(11,nI x86),(9,.slice p98 L84.length c99),(7,nP z52 0),(2,nI x34),(1,.slice pa1 K1.length ca1)]) (w':=w90) (by kernel_rfl) ?_
   intro a107 hF106; clear hF93
   refine wpList_nil ?_
   have hS108:=hS92.pick2.drop.pick2.drop.pick3.drop
   clear hS92
   refine thenN (wp_seq (wp_seq ?_))
   refine joinQ (fun aI wI=>∃ (y109:Bool),Fr 140 aI [(66,.bool (y109)),(9,.slice p98 L84.length c99),(7,nP z52 0),(2,nI x34),(1,.slice pa1 K1.length ca1)]∧St w0 [] (BlkP z52 111 #[nP z53 0,nI x42,nI x43,nI x44]::HeapP z53 z54 s87::RowP (.slice p98 L84.length c99) L84::ps) wI∧StoreKeeps.j2 K1 k x34 x42 x43 x44 L84 s87 y109=some r0) ?_ ?_
   rotate_left
   · rintro a111 w112 ⟨y109,hF113,hS114,hm115⟩
     clear hF106 hS108 hm89
     unfold StoreKeeps.j2 at hm115
     refine thenN ?_
     cases hc117:(y109)
     case true =>
      rw [hc117] at hF113
      have hm118:=ifYes hc117 hm115; clear hm115
      refine ev_condT hF113 rfl rfl ?_
      refine wp_seq (wp_region_lit ?_)
      refine ev_runK 1 hF113 [6] (l':=[(6,.bool false)]) (w':=w112) (by kernel_rfl) ?_
      intro a120 hF119; clear hF113
      refine wpList_nil ?_
      have hS121:=hS114.drop.drop.drop
      clear hS114
      refine thenN ?_
      refine wp_ret ?_
      refine thenR ?_
      obtain rfl:=Option.some.inj hm118
      refine ev_ret hF119 [6] (.bool false) rfl rfl rfl ?_
      exact ⟨rfl,hS121⟩
     rw [hc117] at hF113
     have hm123:=ifNot hc117 hm115; clear hm115
     refine ev_condF hF113 rfl rfl ?_
     refine wp_skip ?_
     have hF124:=hF113.keep [1,2,7,9]
     clear hF113
     refine thenN (wp_seq (wp_seq (wp_region_lit ?_)))
     refine ev_runs 1 hF124 (l':=[(12,nI 0),(9,.slice p98 L84.length c99),(7,nP z52 0),(2,nI x34),(1,.slice pa1 K1.length ca1)]) (w':=w112) (by kernel_rfl) ?_
     intro a126 hF125; clear hF124
     refine wpList_nil (thenN ?_)
     refine wp_block ?_
     refine wp_loop_ghost (fun kI aI wI=>∃ (s127:HSt) (x128:Int),Fr 140 aI [(12,nI x128),(9,.slice p98 L84.length c99),(7,nP z52 0),(2,nI x34),(1,.slice pa1 K1.length ca1)]∧St w0 [] (BlkP z52 111 #[nP z53 0,nI x42,nI x43,nI x44]::HeapP z53 z54 s127::RowP (.slice p98 L84.length c99) L84::ps) wI∧StoreKeeps.l5 K1 k x34 x42 x43 x44 L84 kI s127 x128=some r0) k ⟨s87,0,hF125,hS114,hm123⟩ ?_
     rintro k129 a130 w131 ⟨s127,x128,hF132,hS133,hm134⟩
     clear hF125 hS114 hm123
     rcases k129 with _ | k129
     · cases hm134
     have hm135:StoreKeeps.l5b K1 k x34 x42 x43 x44 L84 (StoreKeeps.l5 K1 k x34 x42 x43 x44 L84 k129) s127 x128=some r0:=hm134
     clear hm134
     unfold StoreKeeps.l5b at hm135
     refine wp_seq (wp_seq ?_)
     refine joinQ (fun aI wI=>∃ (y136:Bool),Fr 140 aI [(74,.bool (y136)),(12,nI x128),(9,.slice p98 L84.length c99),(7,nP z52 0),(2,nI x34),(1,.slice pa1 K1.length ca1)]∧St w0 [] (BlkP z52 111 #[nP z53 0,nI x42,nI x43,nI x44]::HeapP z53 z54 s127::RowP (.slice p98 L84.length c99) L84::ps) wI∧StoreKeeps.j6 K1 k x34 x42 x43 x44 L84 s127 x128 (StoreKeeps.l5 K1 k x34 x42 x43 x44 L84 k129) y136=some r0) ?_ ?_
     rotate_left
     · rintro a138 w139 ⟨y136,hF140,hS141,hm142⟩
       clear hF132 hS133 hm135
       unfold StoreKeeps.j6 at hm142
       refine thenN ?_
       cases hc144:(y136)
       case true =>
        rw [hc144] at hF140
        have hm145:=ifYes hc144 hm142; clear hm142
        refine ev_condT hF140 rfl rfl ?_
        refine wp_skip ?_
        have hF146:=hF140.keep [1,2,7,9,12]
        clear hF140
        refine thenN (wp_seq ?_)
        refine wp_block ?_
        obtain ⟨hc147,hm148⟩:=ifTE hm145; clear hm145
        obtain ⟨g149,rfl⟩:=hp100.resolve_left (by have:=inR_spec hc147; omega)
        obtain ⟨hc150,hm151⟩:=ifTE hm148; clear hm148
        obtain ⟨b152,o153,rfl⟩:=argK hA1 hc150
        have hS154:=hS141.pick2
        clear hS141
        have hS155:=hS154.drew; clear hS154
        refine any_start (fun wS=>∃ qs,St w0 [] (RowP (nS g149 L84 c99) L84::qs) wS) 13 #[false,false,false,false,false,false,false,false,false,false,false,false,false] (by kernel_rfl) (by kernel_rfl) (by kernel_rfl) ?_
        refine any_many 10 [(0,some (nP z52 0)),(2,some (nS g149 L84 c99)),(3,some (nP g149 ((0:Int).toNat))),(4,some (nI (atI L84 (0:Int)))),(5,some (nI x128)),(6,some (.slice (some ⟨b152,o153,none⟩) K1.length ca1)),(7,some (nI x128)),(8,some (nP b152 ((o153+x128.toNat)))),(9,some (nI (atI K1 x128))),(10,some (nI (Int.tmod (atI K1 x128) 1000)))] [1,2,7,9,12,77,78,81,82,87,88] #[true,false,true,true,true,true,true,true,true,true,true,false,false] (by rfl) hF146 (by kernel_rfl) (by kernel_rfl) (by exact ⟨fun wS hw=>by kernel_rfl,fun wS hw=>by kernel_rfl,fun wS hw=>run_idx rfl rfl rfl rfl rfl (inR_spec hc147).1 (inR_spec hc147).2 _,fun wS hw=>run_load1 rfl rfl rfl (hw.elim fun qs hw=>hw.atI 0 rfl hc147),fun wS hw=>by kernel_rfl,fun wS hw=>by kernel_rfl,fun wS hw=>by kernel_rfl,fun wS hw=>run_idxO rfl rfl rfl rfl rfl (inR_spec hc150).1 (inR_spec hc150).2 _,fun wS hw=>run_load1 rfl rfl rfl (hw.elim fun qs hw=>argAt hA1 hw hc150),fun wS hw=>by kernel_rfl,trivial⟩) (fun _ _ _ _ _ h=>h) ⟨_,hS155⟩ (l':=[(87,nI (Int.tmod (atI K1 x128) 1000)),(82,nI x128),(81,nI (atI L84 (0:Int))),(77,nP z52 0),(12,nI x128),(9,nS g149 L84 c99),(7,nP z52 0),(2,nI x34),(1,.slice (some ⟨b152,o153,none⟩) K1.length ca1)]) (by kernel_rfl) ?_
        intro a157 hF156; clear hF146
        have hS158:=hS155.pick2.pick2
        clear hS155
        refine any_call 1 #[true,true,true,true,true,true,true,true,true,true,true,false,false] 39 #[nP z52 0] hF156 rfl (by kernel_rfl) rfl rfl (by kernel_rfl) rfl (by kernel_rfl) (fun w=>by kernel_rfl) (by kernel_rfl) ?_
        obtain ⟨s159,hx160,hm161⟩:=bind1E hm151; clear hm151
        refine (store_Heap.ok hS158 hx160).mono ?_
        rintro _ w162 ⟨rfl,hS164⟩; clear hS158
        refine ⟨⟨_,hS164.pick2⟩,?_⟩
        intro a163 hF165; clear hF156
        refine any_call 11 #[true,true,true,true,true,true,true,true,true,true,true,true,false] 49 #[nI (Int.tmod (atI K1 x128) 1000)] hF165 rfl (by kernel_rfl) rfl rfl (by kernel_rfl) rfl (by kernel_rfl) (fun w=>by kernel_rfl) (by kernel_rfl) ?_
        refine (p_rInt hS164).mono ?_
        rintro _ w166 ⟨rfl,hS168⟩; clear hS164
        refine ⟨⟨_,hS168.pick2⟩,?_⟩
        intro a167 hF169; clear hF165
        have hS170:=hS168.pick1
        clear hS168
        refine any_call 12 #[true,true,true,true,true,true,true,true,true,true,true,true,true] 48 #[nP z53 0,nI (atI L84 (0:Int)),nI x128,nI (wrap64 ((Int.tmod (atI K1 x128) 1000) * 2))] hF169 rfl (by kernel_rfl) rfl rfl (by kernel_rfl) rfl (by kernel_rfl) (fun w=>by kernel_rfl) (by kernel_rfl) ?_
        obtain ⟨x171,s172,hx173,hm174⟩:=bind2E hm161; clear hm161
        refine (p_Store hS170 hx173).mono ?_
        rintro _ w175 ⟨rfl,hS177⟩; clear hS170
        refine ⟨⟨_,hS177.pick2⟩,?_⟩
        intro a176 hF178; clear hF169
        refine any_done (by kernel_rfl) ?_
        have hF179:=hF178.keep [1,2,7,9,12]
        clear hF178
        refine blockN ?_
        refine thenN (wp_region_lit ?_)
        refine ev_runK 3 hF179 [1,2,7,9,12] (l':=[(12,nI (IntKind.i64.wrap (x128+1))),(9,nS g149 L84 c99),(7,nP z52 0),(2,nI x34),(1,.slice (some ⟨b152,o153,none⟩) K1.length ca1)]) (w':=w175) (by kernel_rfl) ?_
        intro a181 hF180; clear hF179
        refine wpList_nil ?_
        have hS182:=hS177.pick2.pick1.pick2
        clear hS177
        exact thenN ⟨k129,Nat.lt_succ_self _,s172,IntKind.i64.wrap (x128+1),hF180,hS182,hm174⟩
       rw [hc144] at hF140
       have hm183:=ifNot hc144 hm142; clear hm142
       refine ev_condF hF140 rfl rfl ?_
       refine wp_exit ?_
       refine thenE ?_
       refine thenE ?_
       refine blockE ?_
       refine thenN (wp_seq (wp_seq (wp_region_lit ?_)))
       refine ev_runK 1 hF140 [1,2,7,9,13] (l':=[(13,nI 0),(9,.slice p98 L84.length c99),(7,nP z52 0),(2,nI x34),(1,.slice pa1 K1.length ca1)]) (w':=w139) (by kernel_rfl) ?_
       intro a185 hF184; clear hF140
       refine wpList_nil (thenN ?_)
       refine wp_block ?_
       refine wp_loop_ghost (fun kI aI wI=>∃ (s186:HSt) (x187:Int),Fr 140 aI [(13,nI x187),(9,.slice p98 L84.length c99),(7,nP z52 0),(2,nI x34),(1,.slice pa1 K1.length ca1)]∧St w0 [] (BlkP z52 111 #[nP z53 0,nI x42,nI x43,nI x44]::HeapP z53 z54 s186::RowP (.slice p98 L84.length c99) L84::ps) wI∧StoreKeeps.l7 K1 k x34 x42 x43 x44 L84 kI s186 x187=some r0) k ⟨s127,0,hF184,hS141,hm183⟩ ?_
       rintro k188 a189 w190 ⟨s186,x187,hF191,hS192,hm193⟩
       clear hF184 hS141 hm183
       rcases k188 with _ | k188
       · cases hm193
       have hm194:StoreKeeps.l7b K1 k x34 x42 x43 x44 L84 (StoreKeeps.l7 K1 k x34 x42 x43 x44 L84 k188) s186 x187=some r0:=hm193
       clear hm193
       unfold StoreKeeps.l7b at hm194
       refine wp_seq (wp_seq (wp_region_lit ?_))
       refine ev_runK 3 hF191 [1,2,7,9,13,92] (l':=[(92,.bool (decide (x187<x34))),(13,nI x187),(9,.slice p98 L84.length c99),(7,nP z52 0),(2,nI x34),(1,.slice pa1 K1.length ca1)]) (w':=w190) (by kernel_rfl) ?_
       intro a196 hF195; clear hF191
       refine wpList_nil (thenN ?_)
       cases hc197:(decide (x187<x34))
       case true =>
        rw [hc197] at hF195
        have hm198:=ifYes hc197 hm194; clear hm194
        refine ev_condT hF195 rfl rfl ?_
        refine wp_skip ?_
        have hF199:=hF195.keep [1,2,7,9,13]
        clear hF195
        refine thenN (wp_seq ?_)
        refine wp_block ?_
        refine wp_seq (wp_region_lit ?_)
        refine ev_runs 6 hF199 (l':=[(101,.slice (some ⟨w190.heap.size,0,none⟩) 1 1),(100,.agg #[nI 2,nI (IntKind.i64.wrap (1+(Int.tmod x187 3)))]),(99,nI (IntKind.i64.wrap (1+(Int.tmod x187 3)))),(98,nI (Int.tmod x187 3)),(97,nI x187),(96,nP z52 0),(13,nI x187),(9,.slice p98 L84.length c99),(7,nP z52 0),(2,nI x34),(1,.slice pa1 K1.length ca1)]) (w':=w190.alloc (.cells #[nI 2,nI (IntKind.i64.wrap (1+(Int.tmod x187 3)))] 74)) (by kernel_rfl) ?_
        intro a202 hF201; clear hF199
        have hS203:St w0 [] (RowX kNd (.slice (some ⟨w190.heap.size,0,none⟩) 1 1) [(⟨2,IntKind.i64.wrap (1+(Int.tmod x187 3))⟩:Nd)]::BlkP z52 111 #[nP z53 0,nI x42,nI x43,nI x44]::HeapP z53 z54 s186::RowP (.slice p98 L84.length c99) L84::ps) (w190.alloc (.cells #[nI 2,nI (IntKind.i64.wrap (1+(Int.tmod x187 3)))] 74)):=St.litX kNd hS192 [(⟨2,IntKind.i64.wrap (1+(Int.tmod x187 3))⟩:Nd)] (by unfold maxLen; simp)
        clear hS192
        refine ev_runs 1 hF201 (l':=[(102,.slice p98 L84.length c99),(101,.slice (some ⟨w190.heap.size,0,none⟩) 1 1),(100,.agg #[nI 2,nI (IntKind.i64.wrap (1+(Int.tmod x187 3)))]),(99,nI (IntKind.i64.wrap (1+(Int.tmod x187 3)))),(98,nI (Int.tmod x187 3)),(97,nI x187),(96,nP z52 0),(13,nI x187),(9,.slice p98 L84.length c99),(7,nP z52 0),(2,nI x34),(1,.slice pa1 K1.length ca1)]) (w':=w190.alloc (.cells #[nI 2,nI (IntKind.i64.wrap (1+(Int.tmod x187 3)))] 74)) (by kernel_rfl) ?_
        intro a205 hF204; clear hF201
        have hS206:=hS203.pick3.pick1.pick3.pick3
        clear hS203
        refine ev_call 43 #[nP z52 0,.slice (some ⟨w190.heap.size,0,none⟩) 1 1,.slice p98 L84.length c99] hF204 rfl rfl (by kernel_rfl) rfl (by kernel_rfl) (fun w=>by kernel_rfl) ?_
        obtain ⟨L207,L208,x209,s210,hx211,hm212⟩:=bind4E hm198; clear hm198
        refine (store_Alloc.ok hS206 hx211).mono ?_
        rintro _ w213 ⟨z217,z218,rfl,hS215⟩ a214 hF216; clear hF204 hS206
        obtain ⟨hl224,p221,c222,rfl,hp223⟩:=St.shape hS215 4 rfl
        obtain ⟨hl228,p225,c226,rfl,hp227⟩:=St.shapeG (k:=5) hS215 rfl
        refine ev_runK 7 hF216 [1,2,7,9,13,16] (l':=[(16,nI x209),(13,nI x187),(9,.slice p98 L84.length c99),(7,nP z52 0),(2,nI x34),(1,.slice pa1 K1.length ca1)]) (w':=w213) (by kernel_rfl) ?_
        intro a230 hF229; clear hF216
        refine wpList_nil ?_
        have hS231:=hS215.pick2.drop.pick3.drop.pick3.drop
        clear hS215
        refine thenN (wp_seq (wp_region_lit ?_))
        refine ev_runK 2 hF229 [1,2,7,9,13,108] (l':=[(108,.bool (x209 != 0)),(13,nI x187),(9,.slice p98 L84.length c99),(7,nP z52 0),(2,nI x34),(1,.slice pa1 K1.length ca1)]) (w':=w213) (by kernel_rfl) ?_
        intro a233 hF232; clear hF229
        refine wpList_nil (thenN ?_)
        cases hc234:(x209 != 0)
        case true =>
         rw [hc234] at hF232
         have hm235:=ifYes hc234 hm212; clear hm212
         refine ev_condT hF232 rfl rfl ?_
         refine wp_seq (wp_region_lit ?_)
         refine ev_runK 1 hF232 [6] (l':=[(6,.bool false)]) (w':=w213) (by kernel_rfl) ?_
         intro a237 hF236; clear hF232
         refine wpList_nil ?_
         have hS238:=hS231.drop.drop.drop
         clear hS231
         refine thenN ?_
         refine wp_ret ?_
         refine blockR ?_
         refine thenR (thenR ?_)
         refine blockR ?_
         refine thenR ?_
         obtain rfl:=Option.some.inj hm235
         refine ev_ret hF236 [6] (.bool false) rfl rfl rfl ?_
         exact ⟨rfl,hS238⟩
        rw [hc234] at hF232
        have hm240:=ifNot hc234 hm212; clear hm212
        refine ev_condF hF232 rfl rfl ?_
        refine wp_skip ?_
        have hF241:=hF232.keep [1,2,7,9,13]
        clear hF232
        refine blockN ?_
        refine thenN (wp_region_lit ?_)
        refine ev_runK 3 hF241 [1,2,7,9,13] (l':=[(13,nI (IntKind.i64.wrap (x187+1))),(9,.slice p98 L84.length c99),(7,nP z52 0),(2,nI x34),(1,.slice pa1 K1.length ca1)]) (w':=w213) (by kernel_rfl) ?_
        intro a243 hF242; clear hF241
        refine wpList_nil ?_
        exact thenN ⟨k188,Nat.lt_succ_self _,s210,IntKind.i64.wrap (x187+1),hF242,hS231,hm240⟩
       rw [hc197] at hF195
       have hm244:=ifNot hc197 hm194; clear hm194
       refine ev_condF hF195 rfl rfl ?_
       refine wp_exit ?_
       refine thenE ?_
       refine thenE ?_
       refine blockE ?_
       refine thenN (wp_seq (wp_seq (wp_region_lit ?_)))
       refine ev_runK 1 hF195 [1,7,9,17] (l':=[(17,nI 0),(9,.slice p98 L84.length c99),(7,nP z52 0),(1,.slice pa1 K1.length ca1)]) (w':=w190) (by kernel_rfl) ?_
       intro a246 hF245; clear hF195
       refine wpList_nil (thenN ?_)
       refine wp_block ?_
       refine wp_loop_ghost (fun kI aI wI=>∃ (s247:HSt) (x248:Int),Fr 140 aI [(17,nI x248),(9,.slice p98 L84.length c99),(7,nP z52 0),(1,.slice pa1 K1.length ca1)]∧St w0 [] (BlkP z52 111 #[nP z53 0,nI x42,nI x43,nI x44]::HeapP z53 z54 s247::RowP (.slice p98 L84.length c99) L84::ps) wI∧StoreKeeps.l12 K1 k x42 x43 x44 L84 kI s247 x248=some r0) k ⟨s186,0,hF245,hS192,hm244⟩ ?_
       rintro k249 a250 w251 ⟨s247,x248,hF252,hS253,hm254⟩
       clear hF245 hS192 hm244
       rcases k249 with _ | k249
       · cases hm254
       have hm255:StoreKeeps.l12b K1 k x42 x43 x44 L84 (StoreKeeps.l12 K1 k x42 x43 x44 L84 k249) s247 x248=some r0:=hm254
       clear hm254
       unfold StoreKeeps.l12b at hm255
       refine wp_seq (wp_seq (wp_region_lit ?_))
       refine ev_runK 2 hF252 [1,7,9,17,110] (l':=[(110,.bool (decide (x248<10))),(17,nI x248),(9,.slice p98 L84.length c99),(7,nP z52 0),(1,.slice pa1 K1.length ca1)]) (w':=w251) (by kernel_rfl) ?_
       intro a257 hF256; clear hF252
       refine wpList_nil (thenN ?_)
       cases hc258:(decide (x248<10))
       case true =>
        rw [hc258] at hF256
        have hm259:=ifYes hc258 hm255; clear hm255
        refine ev_condT hF256 rfl rfl ?_
        refine wp_skip ?_
        have hF260:=hF256.keep [1,7,9,17]
        clear hF256
        refine thenN (wp_seq ?_)
        refine wp_block ?_
        refine wp_seq (wp_region_lit ?_)
        refine ev_runs 1 hF260 (l':=[(18,nI 0),(17,nI x248),(9,.slice p98 L84.length c99),(7,nP z52 0),(1,.slice pa1 K1.length ca1)]) (w':=w251) (by kernel_rfl) ?_
        intro a262 hF261; clear hF260
        refine wpList_nil (thenN (wp_seq (wp_seq (wp_region_lit ?_))))
        refine ev_runK 4 hF261 [1,7,9,17,18,116] (l':=[(116,.bool (decide (x248<(K1.length:Int)))),(18,nI 0),(17,nI x248),(9,.slice p98 L84.length c99),(7,nP z52 0),(1,.slice pa1 K1.length ca1)]) (w':=w251) (by kernel_rfl) ?_
        intro a264 hF263; clear hF261
        refine wpList_nil (thenN ?_)
        refine joinQ (fun aI wI=>∃ (x265:Int),Fr 140 aI [(18,nI x265),(17,nI x248),(9,.slice p98 L84.length c99),(7,nP z52 0),(1,.slice pa1 K1.length ca1)]∧St w0 [] (BlkP z52 111 #[nP z53 0,nI x42,nI x43,nI x44]::HeapP z53 z54 s247::RowP (.slice p98 L84.length c99) L84::ps) wI∧StoreKeeps.j13 k x42 x43 x44 L84 s247 x248 (StoreKeeps.l12 K1 k x42 x43 x44 L84 k249) x265=some r0) ?_ ?_
        rotate_left
        · rintro a267 w268 ⟨x265,hF269,hS270,hm271⟩
          clear hF263 hS253 hm259
          unfold StoreKeeps.j13 at hm271
          refine thenN (wp_seq ?_)
          obtain ⟨hc273,hm274⟩:=ifTE hm271; clear hm271
          obtain ⟨g275,rfl⟩:=hp100.resolve_left (by have:=inR_spec hc273; omega)
          have hS276:=hS270.pick2
          clear hS270
          have hS277:=hS276.drew; clear hS276
          refine any_start (fun wS=>∃ qs,St w0 [] (RowP (nS g275 L84 c99) L84::qs) wS) 12 #[false,false,false,false,false,false,false,false,false,false,false,false] (by kernel_rfl) (by kernel_rfl) (by kernel_rfl) ?_
          refine any_many 5 [(0,some (nP z52 0)),(2,some (nS g275 L84 c99)),(3,some (nP g275 ((0:Int).toNat))),(4,some (nI (atI L84 (0:Int)))),(5,some (nI x248))] [1,7,9,17,18,19,20,123,124,125,128,129,130,131,132] #[true,false,true,true,true,true,false,false,false,false,false,false] (by rfl) hF269 (by kernel_rfl) (by kernel_rfl) (by exact ⟨fun wS hw=>by kernel_rfl,fun wS hw=>by kernel_rfl,fun wS hw=>run_idx rfl rfl rfl rfl rfl (inR_spec hc273).1 (inR_spec hc273).2 _,fun wS hw=>run_load1 rfl rfl rfl (hw.elim fun qs hw=>hw.atI 0 rfl hc273),fun wS hw=>by kernel_rfl,trivial⟩) (fun _ _ _ _ _ h=>h) ⟨_,hS277⟩ (l':=[(129,nI x248),(128,nI (atI L84 (0:Int))),(124,nP z52 0),(18,nI x265),(17,nI x248),(9,nS g275 L84 c99),(7,nP z52 0),(1,.slice pa1 K1.length ca1)]) (by kernel_rfl) ?_
          intro a279 hF278; clear hF269
          have hS280:=hS277.pick2.pick2
          clear hS277
          refine any_call 1 #[true,true,true,true,true,true,false,false,false,false,false,false] 39 #[nP z52 0] hF278 rfl (by kernel_rfl) rfl rfl (by kernel_rfl) rfl (by kernel_rfl) (fun w=>by kernel_rfl) (by kernel_rfl) ?_
          obtain ⟨s281,hx282,hm283⟩:=bind1E hm274; clear hm274
          refine (store_Heap.ok hS280 hx282).mono ?_
          rintro _ w284 ⟨rfl,hS286⟩; clear hS280
          refine ⟨⟨_,hS286.pick2⟩,?_⟩
          intro a285 hF287; clear hF278
          have hS288:=hS286.pick1
          clear hS286
          refine any_call 6 #[true,true,true,true,true,true,true,false,false,false,false,false] 50 #[nP z53 0,nI (atI L84 (0:Int)),nI x248] hF287 rfl (by kernel_rfl) rfl rfl (by kernel_rfl) rfl (by kernel_rfl) (fun w=>by kernel_rfl) (by kernel_rfl) ?_
          obtain ⟨x289,x290,hx291,hm292⟩:=bind2E hm283; clear hm283
          refine (p_Load hS288 hx291).mono ?_
          rintro _ w293 ⟨rfl,hS295⟩; clear hS288
          refine ⟨⟨_,hS295.pick2⟩,?_⟩
          intro a294 hF296; clear hF287
          refine any_many 5 [(7,some (.tuple #[nI x289,nI x290])),(8,some (nI x289)),(9,some (nI x290)),(10,some (nI x289)),(11,some (nI x290))] [1,7,9,17,18,19,20] #[true,true,true,true,true,true,true,true,true,true,true,true] (by rfl) hF296 (by kernel_rfl) (by kernel_rfl) (by exact ⟨fun wS hw=>by kernel_rfl,fun wS hw=>by kernel_rfl,fun wS hw=>by kernel_rfl,fun wS hw=>by kernel_rfl,fun wS hw=>by kernel_rfl,trivial⟩) (fun _ _ _ _ _ h=>h) ⟨_,hS295.pick2⟩ (l':=[(20,nI x290),(19,nI x289),(18,nI x265),(17,nI x248),(9,nS g275 L84 c99),(7,nP z52 0),(1,.slice pa1 K1.length ca1)]) (by kernel_rfl) ?_
          intro a298 hF297; clear hF296
          refine any_done (by kernel_rfl) ?_
          refine thenN (wp_seq ?_)
          refine joinQ (fun aI wI=>∃ (y299:Bool),Fr 140 aI [(139,.bool (y299)),(17,nI x248),(9,nS g275 L84 c99),(7,nP z52 0),(1,.slice pa1 K1.length ca1)]∧St w0 [] (HeapP z53 z54 s281::BlkP z52 111 #[nP z53 0,nI x42,nI x43,nI x44]::RowP (nS g275 L84 c99) L84::ps) wI∧StoreKeeps.j14 x248 (StoreKeeps.l12 K1 k x42 x43 x44 L84 k249) s281 y299=some r0) ?_ ?_
          rotate_left
          · rintro a301 w302 ⟨y299,hF303,hS304,hm305⟩
            clear hF297 hS295 hm292
            unfold StoreKeeps.j14 at hm305
            refine thenN ?_
            cases hc307:(y299)
            case true =>
             rw [hc307] at hF303
             have hm308:=ifYes hc307 hm305; clear hm305
             refine ev_condT hF303 rfl rfl ?_
             refine wp_seq (wp_region_lit ?_)
             refine ev_runK 1 hF303 [6] (l':=[(6,.bool false)]) (w':=w302) (by kernel_rfl) ?_
             intro a310 hF309; clear hF303
             refine wpList_nil ?_
             have hS311:=hS304.drop.drop.drop
             clear hS304
             refine thenN ?_
             refine wp_ret ?_
             refine blockR ?_
             refine thenR (thenR ?_)
             refine blockR ?_
             refine thenR ?_
             obtain rfl:=Option.some.inj hm308
             refine ev_ret hF309 [6] (.bool false) rfl rfl rfl ?_
             exact ⟨rfl,hS311⟩
            rw [hc307] at hF303
            have hm313:=ifNot hc307 hm305; clear hm305
            refine ev_condF hF303 rfl rfl ?_
            refine wp_skip ?_
            have hF314:=hF303.keep [1,7,9,17]
            clear hF303
            refine blockN ?_
            refine thenN (wp_region_lit ?_)
            refine ev_runK 3 hF314 [1,7,9,17] (l':=[(17,nI (IntKind.i64.wrap (x248+1))),(9,nS g275 L84 c99),(7,nP z52 0),(1,.slice pa1 K1.length ca1)]) (w':=w302) (by kernel_rfl) ?_
            intro a316 hF315; clear hF314
            refine wpList_nil ?_
            have hS317:=hS304.pick2.pick1.pick2
            clear hS304
            exact thenN ⟨k249,Nat.lt_succ_self _,s281,IntKind.i64.wrap (x248+1),hF315,hS317,hm313⟩
          · skip
            refine wp_region_lit ?_
            refine ev_runs 4 hF297 (l':=[(136,.bool (x289 != x265)),(135,.bool (x289 != x265)),(134,nI x265),(133,nI x289),(20,nI x290),(19,nI x289),(18,nI x265),(17,nI x248),(9,nS g275 L84 c99),(7,nP z52 0),(1,.slice pa1 K1.length ca1)]) (w':=w293) (by kernel_rfl) ?_
            intro a319 hF318; clear hF297
            cases hc320:(x289 != x265)
            case true =>
             rw [hc320] at hF318
             have hm321:=ifYes hc320 hm292; clear hm292
             refine ev_runK 3 hF318 [1,7,9,17,139] (l':=[(139,.bool true),(17,nI x248),(9,nS g275 L84 c99),(7,nP z52 0),(1,.slice pa1 K1.length ca1)]) (w':=w293) (by kernel_rfl) ?_
             intro a323 hF322; clear hF318
             refine wpList_nil ?_
             exact thenN ⟨true,hF322,hS295,hm321⟩
            rw [hc320] at hF318
            have hm324:=ifNot hc320 hm292; clear hm292
            refine ev_runK 3 hF318 [1,7,9,17,139] (l':=[(139,.bool (x290 != 0)),(17,nI x248),(9,nS g275 L84 c99),(7,nP z52 0),(1,.slice pa1 K1.length ca1)]) (w':=w293) (by kernel_rfl) ?_
            intro a326 hF325; clear hF318
            refine wpList_nil ?_
            exact thenN ⟨x290 != 0,hF325,hS295,hm324⟩
        · skip
          cases hc327:(decide (x248<(K1.length:Int)))
          case true =>
           rw [hc327] at hF263
           have hm328:=ifYes hc327 hm259; clear hm259
           refine ev_condT hF263 rfl rfl ?_
           refine wp_region_lit ?_
           refine ev_runs 2 hF263 (l':=[(118,nI x248),(117,.slice pa1 K1.length ca1),(116,.bool true),(18,nI 0),(17,nI x248),(9,.slice p98 L84.length c99),(7,nP z52 0),(1,.slice pa1 K1.length ca1)]) (w':=w251) (by kernel_rfl) ?_
           intro a330 hF329; clear hF263
           obtain ⟨hc331,hm332⟩:=ifTE hm328; clear hm328
           obtain ⟨b333,o334,rfl⟩:=argK hA1 hc331
           refine ev_one (nP b333 ((o334+x248.toNat))) w251 hF329 (by kernel_rfl) rfl (by kernel_rfl) (run_idxO rfl rfl rfl rfl rfl (inR_spec hc331).1 (inR_spec hc331).2 _) (l':=[(119,nP b333 ((o334+x248.toNat))),(118,nI x248),(117,.slice (some ⟨b333,o334,none⟩) K1.length ca1),(116,.bool true),(18,nI 0),(17,nI x248),(9,.slice p98 L84.length c99),(7,nP z52 0),(1,.slice (some ⟨b333,o334,none⟩) K1.length ca1)]) (by kernel_rfl) ?_
           intro a336 hF335; clear hF329
           refine ev_one (nI (atI K1 x248)) w251 hF335 (by kernel_rfl) rfl (by kernel_rfl) (run_load1 rfl rfl rfl (argAt hA1 hS253 hc331)) (l':=[(120,nI (atI K1 x248)),(119,nP b333 ((o334+x248.toNat))),(118,nI x248),(117,.slice (some ⟨b333,o334,none⟩) K1.length ca1),(116,.bool true),(18,nI 0),(17,nI x248),(9,.slice p98 L84.length c99),(7,nP z52 0),(1,.slice (some ⟨b333,o334,none⟩) K1.length ca1)]) (by kernel_rfl) ?_
           intro a338 hF337; clear hF335
           refine ev_runs 1 hF337 (l':=[(121,nI (Int.tmod (atI K1 x248) 1000)),(120,nI (atI K1 x248)),(119,nP b333 ((o334+x248.toNat))),(118,nI x248),(117,.slice (some ⟨b333,o334,none⟩) K1.length ca1),(116,.bool true),(18,nI 0),(17,nI x248),(9,.slice p98 L84.length c99),(7,nP z52 0),(1,.slice (some ⟨b333,o334,none⟩) K1.length ca1)]) (w':=w251) (by kernel_rfl) ?_
           intro a340 hF339; clear hF337
           refine ev_call 49 #[nI (Int.tmod (atI K1 x248) 1000)] hF339 rfl rfl (by kernel_rfl) rfl (by kernel_rfl) (fun w=>by kernel_rfl) ?_
           refine (p_rInt hS253).mono ?_
           rintro _ w341 ⟨rfl,hS343⟩ a342 hF344; clear hF339 hS253
           refine ev_runs 1 hF344 (l':=[(18,nI (wrap64 ((Int.tmod (atI K1 x248) 1000) * 2))),(122,nI (wrap64 ((Int.tmod (atI K1 x248) 1000) * 2))),(121,nI (Int.tmod (atI K1 x248) 1000)),(120,nI (atI K1 x248)),(119,nP b333 ((o334+x248.toNat))),(118,nI x248),(117,.slice (some ⟨b333,o334,none⟩) K1.length ca1),(116,.bool true),(17,nI x248),(9,.slice p98 L84.length c99),(7,nP z52 0),(1,.slice (some ⟨b333,o334,none⟩) K1.length ca1)]) (w':=w341) (by kernel_rfl) ?_
           intro a346 hF345; clear hF344
           obtain ⟨x347,hx348,hm349⟩:=bind1E hm332; clear hm332
           have hF350:=hF345; rw [Option.some.inj hx348] at hF350; clear hF345
           refine wpList_nil ?_
           have hF351:=hF350.keep [1,7,9,17,18]
           clear hF350
           exact thenN ⟨x347,hF351,hS343,hm349⟩
          rw [hc327] at hF263
          have hm352:=ifNot hc327 hm259; clear hm259
          refine ev_condF hF263 rfl rfl ?_
          refine wp_skip ?_
          have hF353:=hF263.keep [1,7,9,17,18]
          clear hF263
          exact thenN ⟨0,hF353,hS253,hm352⟩
       rw [hc258] at hF256
       have hm354:=ifNot hc258 hm255; clear hm255
       refine ev_condF hF256 rfl rfl ?_
       refine wp_exit ?_
       refine thenE ?_
       refine thenE ?_
       refine blockE ?_
       refine thenN (wp_seq (wp_region_lit ?_))
       refine ev_runK 1 hF256 [6] (l':=[(6,.bool true)]) (w':=w251) (by kernel_rfl) ?_
       intro a356 hF355; clear hF256
       refine wpList_nil ?_
       have hS357:=hS253.drop.drop.drop
       clear hS253
       refine thenN ?_
       refine wp_ret ?_
       obtain rfl:=Option.some.inj hm354
       refine ev_ret hF355 [6] (.bool true) rfl rfl rfl ?_
       exact ⟨rfl,hS357⟩
     · skip
       refine wp_region_lit ?_
       refine ev_runs 5 hF132 (l':=[(71,.bool (decide (x128<(K1.length:Int)))),(70,.bool (decide (x128<(K1.length:Int)))),(69,nI ((K1.length:Int))),(68,.slice pa1 K1.length ca1),(67,nI x128),(12,nI x128),(9,.slice p98 L84.length c99),(7,nP z52 0),(2,nI x34),(1,.slice pa1 K1.length ca1)]) (w':=w131) (by kernel_rfl) ?_
       intro a360 hF359; clear hF132
       cases hc361:(decide (x128<(K1.length:Int)))
       case true =>
        rw [hc361] at hF359
        have hm362:=ifYes hc361 hm135; clear hm135
        refine ev_runK 3 hF359 [1,2,7,9,12,74] (l':=[(74,.bool (decide (x128<10))),(12,nI x128),(9,.slice p98 L84.length c99),(7,nP z52 0),(2,nI x34),(1,.slice pa1 K1.length ca1)]) (w':=w131) (by kernel_rfl) ?_
        intro a364 hF363; clear hF359
        refine wpList_nil ?_
        exact thenN ⟨decide (x128<10),hF363,hS133,hm362⟩
       rw [hc361] at hF359
       have hm365:=ifNot hc361 hm135; clear hm135
       refine ev_runK 3 hF359 [1,2,7,9,12,74] (l':=[(74,.bool false),(12,nI x128),(9,.slice p98 L84.length c99),(7,nP z52 0),(2,nI x34),(1,.slice pa1 K1.length ca1)]) (w':=w131) (by kernel_rfl) ?_
       intro a367 hF366; clear hF359
       refine wpList_nil ?_
       exact thenN ⟨false,hF366,hS133,hm365⟩
   · skip
     refine wp_region_lit ?_
     refine ev_runs 3 hF106 (l':=[(62,.bool (x86 != 0)),(61,.bool (x86 != 0)),(60,nI x86),(11,nI x86),(9,.slice p98 L84.length c99),(7,nP z52 0),(2,nI x34),(1,.slice pa1 K1.length ca1)]) (w':=w90) (by kernel_rfl) ?_
     intro a369 hF368; clear hF106
     cases hc370:(x86 != 0)
     case true =>
      rw [hc370] at hF368
      have hm371:=ifYes hc370 hm89; clear hm89
      refine ev_runK 4 hF368 [1,2,7,9,66] (l':=[(66,.bool true),(9,.slice p98 L84.length c99),(7,nP z52 0),(2,nI x34),(1,.slice pa1 K1.length ca1)]) (w':=w90) (by kernel_rfl) ?_
      intro a373 hF372; clear hF368
      refine wpList_nil ?_
      exact thenN ⟨true,hF372,hS108,hm371⟩
     rw [hc370] at hF368
     have hm374:=ifNot hc370 hm89; clear hm89
     refine ev_runK 4 hF368 [1,2,7,9,66] (l':=[(66,.bool ((L84.length:Int) != 1)),(9,.slice p98 L84.length c99),(7,nP z52 0),(2,nI x34),(1,.slice pa1 K1.length ca1)]) (w':=w90) (by kernel_rfl) ?_
     intro a376 hF375; clear hF368
     refine wpList_nil ?_
     exact thenN ⟨(L84.length:Int) != 1,hF375,hS108,hm374⟩
 · skip
   refine wp_region_lit ?_
   refine ev_call 38 #[] hF57 rfl rfl (by kernel_rfl) rfl (by kernel_rfl) (fun w=>by kernel_rfl) ?_
   obtain ⟨y377,hx378,hm379⟩:=bind1E hm47; clear hm47
   refine (law21_awake.ok hS59 hx378).mono ?_
   rintro _ w380 ⟨rfl,hS382⟩ a381 hF383; clear hF57 hS59
   refine ev_runs 2 hF383 (l':=[(39,.bool (!(y377))),(38,.bool (!(y377))),(37,.bool (y377)),(8,nI x45),(7,nP z52 0),(2,nI x34),(1,.slice pa1 K1.length ca1)]) (w':=w380) (by kernel_rfl) ?_
   intro a385 hF384; clear hF383
   cases hc386:(!(y377))
   case true =>
    rw [hc386] at hF384
    have hm387:=ifYes hc386 hm379; clear hm379
    refine ev_runK 12 hF384 [1,2,7,51] (l':=[(51,.bool true),(7,nP z52 0),(2,nI x34),(1,.slice pa1 K1.length ca1)]) (w':=w380) (by kernel_rfl) ?_
    intro a389 hF388; clear hF384
    refine wpList_nil ?_
    exact thenN ⟨s41,true,hF388,hS382,hm387⟩
   rw [hc386] at hF384
   have hm390:=ifNot hc386 hm379; clear hm379
   refine ev_runs 4 hF384 (l':=[(43,.bool (x45 != 0)),(42,.bool (x45 != 0)),(41,.bool (x45 != 0)),(40,nI x45),(39,.bool false),(38,.bool false),(37,.bool (y377)),(8,nI x45),(7,nP z52 0),(2,nI x34),(1,.slice pa1 K1.length ca1)]) (w':=w380) (by kernel_rfl) ?_
   intro a392 hF391; clear hF384
   cases hc393:(x45 != 0)
   case true =>
    rw [hc393] at hF391
    have hm394:=ifYes hc393 hm390; clear hm390
    refine ev_runK 8 hF391 [1,2,7,51] (l':=[(51,.bool true),(7,nP z52 0),(2,nI x34),(1,.slice pa1 K1.length ca1)]) (w':=w380) (by kernel_rfl) ?_
    intro a396 hF395; clear hF391
    refine wpList_nil ?_
    exact thenN ⟨s41,true,hF395,hS382,hm394⟩
   rw [hc393] at hF391
   have hm397:=ifNot hc393 hm390; clear hm390
   refine ev_runs 5 hF391 (l':=[(48,nP z52 0),(47,.bool false),(46,.bool false),(45,.bool false),(44,nP z52 0),(43,.bool false),(42,.bool false),(41,.bool false),(40,nI x45),(39,.bool false),(38,.bool false),(37,.bool (y377)),(8,nI x45),(7,nP z52 0),(2,nI x34),(1,.slice pa1 K1.length ca1)]) (w':=w380) (by kernel_rfl) ?_
   intro a399 hF398; clear hF391
   refine ev_call 39 #[nP z52 0] hF398 rfl rfl (by kernel_rfl) rfl (by kernel_rfl) (fun w=>by kernel_rfl) ?_
   obtain ⟨s400,hx401,hm402⟩:=bind1E hm397; clear hm397
   refine (store_Heap.ok hS382 hx401).mono ?_
   rintro _ w403 ⟨rfl,hS405⟩ a404 hF406; clear hF398 hS382
   refine ev_runK 2 hF406 [1,2,7,51] (l':=[(51,.bool false),(7,nP z52 0),(2,nI x34),(1,.slice pa1 K1.length ca1)]) (w':=w403) (by kernel_rfl) ?_
   intro a408 hF407; clear hF406
   refine wpList_nil ?_
   exact thenN ⟨s400,false,hF407,hS405,hm402⟩
end Go.Proofs.Ytffnjpapggidlaa
