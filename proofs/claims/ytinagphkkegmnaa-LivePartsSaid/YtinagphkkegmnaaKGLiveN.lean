/- GLiveN -/
import Derived.Test.YtinagphkkegmnaaKGLive
import Derived.Test.YtinagphkkegmnaaKSameStr
import Derived.Test.YtinagphkkegmnaaKRowO3
import Derived.Deep.LoopGhost
import Derived.KernelRfl
namespace Go.Proofs.Ytinagphkkegmnaa
open Go.RowKit
set_option maxRecDepth 100000
set_option maxHeartbeats 40000000
set_option linter.unusedVariables false
def live_lookN.m (k:Nat) (i1:Int):Option (Option (List Int)):=some (none)
theorem live_lookN.ok {w0 w:World} {F0:List Nat} {ps:List Piece} {k:Nat} {i1:Int} {r0:Option (List Int)} (hS:St w0 F0 (ps) w) (hm:live_lookN.m k i1=some r0) :
    Calls Try.prog 65 #[.pointer none,nI i1] w fun e w'=>∃ vr0,e=.returned (oObV 95 vr0 r0)∧St w0 F0 (RowP vr0 (r0.getD [])::ps) w':=by
 refine ev_enterL 34 [.pointer none,nI i1] Try.func65 rfl rfl (by simp) ?_
 intro a hF
 have hF0:Fr 34 a [(0,.pointer none),(1,nI i1)]:=hF; clear hF
 unfold live_lookN.m at hm
 refine wp_seq (wp_region_lit ?_)
 refine ev_runK 1 hF0 [0,1] (l':=[(0,.pointer none),(1,nI i1)]) (w':=w) (by kernel_rfl) ?_
 intro a2 hF1; clear hF0
 refine wpList_nil (thenN (wp_seq (wp_seq (wp_region_lit ?_))))
 refine ev_runs 2 hF1 (l':=[(10,nI i1),(9,.pointer none),(0,.pointer none),(1,nI i1)]) (w':=w) (by kernel_rfl) ?_
 intro a4 hF3; clear hF1
 refine ev_call 21 #[.pointer none,nI i1] hF3 rfl rfl (by kernel_rfl) rfl (by kernel_rfl) (fun w=>by kernel_rfl) ?_
 refine (p_KindN hS).mono ?_
 rintro _ w5 ⟨rfl,hS7⟩ a6 hF8; clear hF3 hS
 refine ev_runK 1 hF8 [0,1,12] (l':=[(12,.bool true),(0,.pointer none),(1,nI i1)]) (w':=w5) (by kernel_rfl) ?_
 intro a10 hF9; clear hF8
 refine wpList_nil (thenN ?_)
 refine ev_condT hF9 rfl rfl ?_
 refine wp_seq (wp_region_lit ?_)
 refine ev_runK 1 hF9 [4] (l':=[(4,.nilIface)]) (w':=w5) (by kernel_rfl) ?_
 intro a12 hF11; clear hF9
 refine wpList_nil (thenN ?_)
 refine wp_ret ?_
 refine thenR ?_
 have hS14:St w0 F0 (RowP (.slice none 0 0) []::ps) w5:=St.nil hS7
 clear hS7
 obtain rfl:=Option.some.inj hm
 refine ev_ret hF11 [4] (.nilIface) rfl rfl rfl ?_
 exact ⟨_,rfl,hS14⟩
def live_reachedN.l1b (k:Nat) (rec30:List Int→(Int→Int)→Option ((Int→Int))) (L25:List Int) (f27:(Int→Int)):Option ((Int→Int)):=(if (decide ((L25.length:Int) > 0)) then (if (inR (0:Int) L25.length) then bind1 (dropM L25 (1:Int)) fun L58=>bind1 (live_lookN.m k (atI L25 (0:Int))) fun o78=>optE o78 (rec30 L58 f27) fun L87=>(if (wdR (atI L25 (0:Int))) then (if (decide ((f27 (atI L25 (0:Int))) > 0)) then rec30 L58 f27 else (if (keyR (atI L25 (0:Int))) then (if (wdR (IntKind.i64.wrap ((f27 (atI L25 (0:Int)))+1))) then bind1 (live_places.m k L87) fun L141=>bind1 (appM L58 L141) fun L155=>rec30 L155 ((updM f27 (atI L25 (0:Int)) (IntKind.i64.wrap ((f27 (atI L25 (0:Int)))+1)))) else none) else none)) else none) else none) else some (f27))
def live_reachedN.l1 (k:Nat):Nat→List Int→(Int→Int)→Option ((Int→Int))
  | 0=>fun _ _=>none
  | kI+1=>live_reachedN.l1b k (live_reachedN.l1 k kI)
def live_reachedN.m (k:Nat) (K1:List Int):Option ((Int→Int)):=bind1 (appM [] K1) fun L12=>live_reachedN.l1 k k L12 (fun _=>0)
theorem live_reachedN.ok {w0 w:World} {ps:List Piece} {k:Nat} {pa1:Option Addr} {ca1:Nat} {K1:List Int} (hA1:ArgInts w0 (.slice pa1 K1.length ca1) K1) {r0:(Int→Int)} (hS:St w0 [] (ps) w) (hm:live_reachedN.m k K1=some r0) :
    Calls Try.prog 81 #[.pointer none,.slice pa1 K1.length ca1] w fun e w'=>∃ mr0,e=.returned (.map (some mr0))∧St w0 [] (ColP mr0 r0::ps) w':=by
 refine ev_enterL 46 [.pointer none,.slice pa1 K1.length ca1] Try.func81 rfl rfl (by simp) ?_
 intro a hF
 have hF0:Fr 46 a [(0,.pointer none),(1,.slice pa1 K1.length ca1)]:=hF; clear hF
 unfold live_reachedN.m at hm
 refine wp_seq (wp_region_lit ?_)
 refine ev_runK 1 hF0 [0,1] (l':=[(0,.pointer none),(1,.slice pa1 K1.length ca1)]) (w':=w) (by kernel_rfl) ?_
 intro a2 hF1; clear hF0
 refine wpList_nil (thenN (wp_seq (wp_region_lit ?_)))
 refine ev_runs 1 hF1 (l':=[(10,.map (some (w.heap.size))),(0,.pointer none),(1,.slice pa1 K1.length ca1)]) (w':=w.alloc (.map #[] 0)) (by kernel_rfl) ?_
 intro a5 hF4; clear hF1
 have hS6:St w0 [] (ColP (w.heap.size) (fun _=>0)::ps) (w.alloc (.map #[] 0)):=St.newMap hS
 refine ev_runK 1 hF4 [0,1,5] (l':=[(5,.map (some (w.heap.size))),(0,.pointer none),(1,.slice pa1 K1.length ca1)]) (w':=w.alloc (.map #[] 0)) (by kernel_rfl) ?_
 intro a8 hF7; clear hF4
 refine wpList_nil (thenN (wp_seq (wp_region_lit ?_)))
 refine ev_runs 1 hF7 (l':=[(11,.slice pa1 K1.length ca1),(5,.map (some (w.heap.size))),(0,.pointer none),(1,.slice pa1 K1.length ca1)]) (w':=w.alloc (.map #[] 0)) (by kernel_rfl) ?_
 intro a10 hF9; clear hF7
 obtain ⟨L12,hx13,hm14⟩:=bind1E hm; clear hm
 refine ev_appKO 34 rfl 12 (.const (.slice none 0 0)) (.tmp 11) hF9 rfl rfl (by kernel_rfl) rfl rfl rfl rfl rfl hS6 hA1 hx13 ?_
 intro p15 c16 w17 a18 hS19 hp20 hF21; clear hF9 hS6
 have hF22:=hF21.keep [0,1,5,11,12]; clear hF21
 refine ev_runK 1 hF22 [0,5,6] (l':=[(6,.slice p15 L12.length c16),(5,.map (some (w.heap.size))),(0,.pointer none)]) (w':=w17) (by kernel_rfl) ?_
 intro a24 hF23; clear hF22
 refine wpList_nil (thenN (wp_seq ?_))
 refine wp_block ?_
 refine wp_loop_ghost (fun kI aI wI=>∃ (v26:Value) (L25:List Int) (f27:(Int→Int)),Fr 46 aI [(6,v26),(5,.map (some (w.heap.size))),(0,.pointer none)]∧St w0 [] (OffP (v26) L25::ColP (w.heap.size) f27::ps) wI∧live_reachedN.l1 k kI L25 f27=some r0) k ⟨.slice p15 L12.length c16,L12,(fun _=>0),hF23,hS19,hm14⟩ ?_
 rintro k28 a29 w30 ⟨v26,L25,f27,hF31,hS32,hm33⟩
 clear hF23 hS19 hm14
 rcases k28 with _ | k28
 · cases hm33
 have hm34:live_reachedN.l1b k (live_reachedN.l1 k k28) L25 f27=some r0:=hm33
 clear hm33
 unfold live_reachedN.l1b at hm34
 obtain ⟨hl38,p35,c36,rfl,hp37⟩:=St.shapeO hS32 0 rfl
 refine wp_seq (wp_seq (wp_region_lit ?_))
 refine ev_runK 3 hF31 [0,5,6,15] (l':=[(15,.bool (decide ((L25.length:Int) > 0))),(6,.slice p35 L25.length c36),(5,.map (some (w.heap.size))),(0,.pointer none)]) (w':=w30) (by kernel_rfl) ?_
 intro a40 hF39; clear hF31
 refine wpList_nil (thenN ?_)
 cases hc41:(decide ((L25.length:Int) > 0))
 case true =>
  rw [hc41] at hF39
  have hm42:=ifYes hc41 hm34; clear hm34
  refine ev_condT hF39 rfl rfl ?_
  refine wp_skip ?_
  have hF43:=hF39.keep [0,5,6]
  clear hF39
  refine thenN ?_
  refine wp_block ?_
  refine wp_seq (wp_region_lit ?_)
  refine ev_runs 1 hF43 (l':=[(16,.slice p35 L25.length c36),(6,.slice p35 L25.length c36),(5,.map (some (w.heap.size))),(0,.pointer none)]) (w':=w30) (by kernel_rfl) ?_
  intro a45 hF44; clear hF43
  obtain ⟨hc46,hm47⟩:=ifTE hm42; clear hm42
  obtain ⟨g48,of49,rfl⟩:=hp37.resolve_left (by have:=inR_spec hc46; omega)
  refine ev_one (nP g48 ((of49+(0:Int).toNat))) w30 hF44 (by kernel_rfl) rfl (by kernel_rfl) (run_idxO rfl rfl rfl rfl rfl (inR_spec hc46).1 (inR_spec hc46).2 _) (l':=[(17,nP g48 ((of49+(0:Int).toNat))),(16,.slice (some ⟨g48,of49,none⟩) L25.length c36),(6,.slice (some ⟨g48,of49,none⟩) L25.length c36),(5,.map (some (w.heap.size))),(0,.pointer none)]) (by kernel_rfl) ?_
  intro a51 hF50; clear hF44
  refine ev_one (nI (atI L25 (0:Int))) w30 hF50 (by kernel_rfl) rfl (by kernel_rfl) (run_load1 rfl rfl rfl (St.atO hS32 0 rfl hc46)) (l':=[(18,nI (atI L25 (0:Int))),(17,nP g48 ((of49+(0:Int).toNat))),(16,.slice (some ⟨g48,of49,none⟩) L25.length c36),(6,.slice (some ⟨g48,of49,none⟩) L25.length c36),(5,.map (some (w.heap.size))),(0,.pointer none)]) (by kernel_rfl) ?_
  intro a53 hF52; clear hF50
  refine ev_runK 1 hF52 [0,5,6,7] (l':=[(7,nI (atI L25 (0:Int))),(6,.slice (some ⟨g48,of49,none⟩) L25.length c36),(5,.map (some (w.heap.size))),(0,.pointer none)]) (w':=w30) (by kernel_rfl) ?_
  intro a55 hF54; clear hF52
  refine wpList_nil (thenN (wp_seq (wp_region_lit ?_)))
  refine ev_runs 1 hF54 (l':=[(19,.slice (some ⟨g48,of49,none⟩) L25.length c36),(7,nI (atI L25 (0:Int))),(6,.slice (some ⟨g48,of49,none⟩) L25.length c36),(5,.map (some (w.heap.size))),(0,.pointer none)]) (w':=w30) (by kernel_rfl) ?_
  intro a57 hF56; clear hF54
  obtain ⟨L58,hx59,hm60⟩:=bind1E hm47; clear hm47
  obtain ⟨hb61,hb62,hl63,hS64⟩:=St.cutO hS32 hx59; clear hS32
  refine ev_one (.slice (some ⟨g48,if c36=(1:Int).toNat then of49 else of49+(1:Int).toNat,none⟩) L58.length (c36 - (1:Int).toNat)) w30 hF56 (by kernel_rfl) rfl (by kernel_rfl) (by rw [hl63]; exact run_sliceLo rfl rfl rfl rfl rfl hb61.1 hb61.2.1 hb61.2.2 _) (l':=[(20,.slice (some ⟨g48,if c36=(1:Int).toNat then of49 else of49+(1:Int).toNat,none⟩) L58.length (c36 - (1:Int).toNat)),(19,.slice (some ⟨g48,of49,none⟩) L25.length c36),(7,nI (atI L25 (0:Int))),(6,.slice (some ⟨g48,of49,none⟩) L25.length c36),(5,.map (some (w.heap.size))),(0,.pointer none)]) (by kernel_rfl) ?_
  intro a66 hF65; clear hF56
  have hF67:=hF65.keep [0,5,7,20]; clear hF65
  refine ev_runK 1 hF67 [0,5,6,7] (l':=[(6,.slice (some ⟨g48,if c36=(1:Int).toNat then of49 else of49+(1:Int).toNat,none⟩) L58.length (c36 - (1:Int).toNat)),(7,nI (atI L25 (0:Int))),(5,.map (some (w.heap.size))),(0,.pointer none)]) (w':=w30) (by kernel_rfl) ?_
  intro a69 hF68; clear hF67
  refine wpList_nil (thenN (wp_seq (wp_region_lit ?_)))
  refine ev_runs 1 hF68 (l':=[(22,.pointer none),(6,.slice (some ⟨g48,if c36=(1:Int).toNat then of49 else of49+(1:Int).toNat,none⟩) L58.length (c36 - (1:Int).toNat)),(7,nI (atI L25 (0:Int))),(5,.map (some (w.heap.size))),(0,.pointer none)]) (w':=w30) (by kernel_rfl) ?_
  intro a71 hF70; clear hF68
  refine ev_call 55 #[.pointer none] hF70 rfl rfl (by kernel_rfl) rfl (by kernel_rfl) (fun w=>by kernel_rfl) ?_
  refine (p_ArenaN hS64).mono ?_
  rintro _ w72 ⟨rfl,hS74⟩ a73 hF75; clear hF70 hS64
  refine ev_runs 1 hF75 (l':=[(24,nI (atI L25 (0:Int))),(23,.pointer none),(22,.pointer none),(6,.slice (some ⟨g48,if c36=(1:Int).toNat then of49 else of49+(1:Int).toNat,none⟩) L58.length (c36 - (1:Int).toNat)),(7,nI (atI L25 (0:Int))),(5,.map (some (w.heap.size))),(0,.pointer none)]) (w':=w72) (by kernel_rfl) ?_
  intro a77 hF76; clear hF75
  refine ev_call 65 #[.pointer none,nI (atI L25 (0:Int))] hF76 rfl rfl (by kernel_rfl) rfl (by kernel_rfl) (fun w=>by kernel_rfl) ?_
  obtain ⟨o78,hx79,hm80⟩:=bind1E hm60; clear hm60
  refine (live_lookN.ok hS74 hx79).mono ?_
  rintro _ w81 ⟨z85,rfl,hS83⟩ a82 hF84; clear hF76 hS74
  cases o78 with
  | none =>
   have hm88:=optN hm80; clear hm80
   have hS90:St w0 [] (OffP (.slice none 0 0) []::RowP (z85) (Option.getD (none:Option (List Int)) [])::OffP (.slice (some ⟨g48,if c36=(1:Int).toNat then of49 else of49+(1:Int).toNat,none⟩) L58.length (c36 - (1:Int).toNat)) L58::ColP (w.heap.size) f27::ps) w81:=St.nilO hS83
   clear hS83
   refine ev_runK 6 hF84 [0,5,6,7,8,9] (l':=[(9,.bool false),(8,.slice none 0 0),(6,.slice (some ⟨g48,if c36=(1:Int).toNat then of49 else of49+(1:Int).toNat,none⟩) L58.length (c36 - (1:Int).toNat)),(7,nI (atI L25 (0:Int))),(5,.map (some (w.heap.size))),(0,.pointer none)]) (w':=w81) (by kernel_rfl) ?_
   intro a92 hF91; clear hF84
   refine wpList_nil ?_
   have hS93:=hS90.pick1.drop
   clear hS90
   refine thenN (wp_seq (wp_seq (wp_region_lit ?_)))
   refine ev_runK 8 hF91 [0,5,6,7,8,36] (l':=[(36,.bool true),(8,.slice none 0 0),(6,.slice (some ⟨g48,if c36=(1:Int).toNat then of49 else of49+(1:Int).toNat,none⟩) L58.length (c36 - (1:Int).toNat)),(7,nI (atI L25 (0:Int))),(5,.map (some (w.heap.size))),(0,.pointer none)]) (w':=w81) (by kernel_rfl) ?_
   intro a95 hF94; clear hF91
   refine wpList_nil (thenN ?_)
   refine ev_condT hF94 rfl rfl ?_
   refine wp_exit ?_
   refine thenE ?_
   refine blockE ?_
   have hF96:=hF94.keep [0,5,6]
   clear hF94
   have hS97:=hS93.drop
   clear hS93
   exact thenN ⟨k28,Nat.lt_succ_self _,.slice (some ⟨g48,if c36=(1:Int).toNat then of49 else of49+(1:Int).toNat,none⟩) L58.length (c36 - (1:Int).toNat),L58,f27,hF96,hS97,hm88⟩
  | some L87 =>
   have hm98:=optS hm80; clear hm80
   have hS99:St w0 [] (RowP (z85) L87::OffP (.slice (some ⟨g48,if c36=(1:Int).toNat then of49 else of49+(1:Int).toNat,none⟩) L58.length (c36 - (1:Int).toNat)) L58::ColP (w.heap.size) f27::ps) w81:=hS83
   clear hS83
   obtain ⟨hl103,p100,c101,rfl,hp102⟩:=St.shape hS99 0 rfl
   refine ev_runK 6 hF84 [0,5,6,7,8,9] (l':=[(9,.bool true),(8,.slice p100 L87.length c101),(6,.slice (some ⟨g48,if c36=(1:Int).toNat then of49 else of49+(1:Int).toNat,none⟩) L58.length (c36 - (1:Int).toNat)),(7,nI (atI L25 (0:Int))),(5,.map (some (w.heap.size))),(0,.pointer none)]) (w':=w81) (by kernel_rfl) ?_
   intro a105 hF104; clear hF84
   refine wpList_nil (thenN (wp_seq (wp_seq (wp_region_lit ?_))))
   refine ev_runs 5 hF104 (l':=[(33,nI (atI L25 (0:Int))),(32,.map (some (w.heap.size))),(31,.bool false),(30,.bool false),(29,.bool true),(9,.bool true),(8,.slice p100 L87.length c101),(6,.slice (some ⟨g48,if c36=(1:Int).toNat then of49 else of49+(1:Int).toNat,none⟩) L58.length (c36 - (1:Int).toNat)),(7,nI (atI L25 (0:Int))),(5,.map (some (w.heap.size))),(0,.pointer none)]) (w':=w81) (by kernel_rfl) ?_
   intro a107 hF106; clear hF104
   obtain ⟨hc108,hm109⟩:=ifTE hm98; clear hm98
   refine ev_colGetG 34 2 (.tmp 32) (.tmp 33) (atI L25 (0:Int)) hF106 hS99 rfl (by kernel_rfl) rfl (by kernel_rfl) rfl (by kernel_rfl) (by kernel_rfl) rfl rfl hc108 ?_
   intro a111 hF110; clear hF106
   have hF112:Fr 46 a111 [(34,nI (f27 (atI L25 (0:Int)))),(33,nI (atI L25 (0:Int))),(32,.map (some (w.heap.size))),(31,.bool false),(30,.bool false),(29,.bool true),(9,.bool true),(8,.slice p100 L87.length c101),(6,.slice (some ⟨g48,if c36=(1:Int).toNat then of49 else of49+(1:Int).toNat,none⟩) L58.length (c36 - (1:Int).toNat)),(7,nI (atI L25 (0:Int))),(5,.map (some (w.heap.size))),(0,.pointer none)]:=hF110
   clear hF110
   refine ev_runK 2 hF112 [0,5,6,7,8,36] (l':=[(36,.bool (decide ((f27 (atI L25 (0:Int))) > 0))),(8,.slice p100 L87.length c101),(6,.slice (some ⟨g48,if c36=(1:Int).toNat then of49 else of49+(1:Int).toNat,none⟩) L58.length (c36 - (1:Int).toNat)),(7,nI (atI L25 (0:Int))),(5,.map (some (w.heap.size))),(0,.pointer none)]) (w':=w81) (by kernel_rfl) ?_
   intro a114 hF113; clear hF112
   refine wpList_nil (thenN ?_)
   cases hc115:(decide ((f27 (atI L25 (0:Int))) > 0))
   case true =>
    rw [hc115] at hF113
    have hm116:=ifYes hc115 hm109; clear hm109
    refine ev_condT hF113 rfl rfl ?_
    refine wp_exit ?_
    refine thenE ?_
    refine blockE ?_
    have hF117:=hF113.keep [0,5,6]
    clear hF113
    have hS118:=hS99.drop
    clear hS99
    exact thenN ⟨k28,Nat.lt_succ_self _,.slice (some ⟨g48,if c36=(1:Int).toNat then of49 else of49+(1:Int).toNat,none⟩) L58.length (c36 - (1:Int).toNat),L58,f27,hF117,hS118,hm116⟩
   rw [hc115] at hF113
   have hm119:=ifNot hc115 hm109; clear hm109
   refine ev_condF hF113 rfl rfl ?_
   refine wp_skip ?_
   have hF120:=hF113.keep [0,5,6,7,8]
   clear hF113
   refine thenN (wp_seq (wp_region_lit ?_))
   refine ev_runs 2 hF120 (l':=[(38,nI (atI L25 (0:Int))),(37,.map (some (w.heap.size))),(8,.slice p100 L87.length c101),(6,.slice (some ⟨g48,if c36=(1:Int).toNat then of49 else of49+(1:Int).toNat,none⟩) L58.length (c36 - (1:Int).toNat)),(7,nI (atI L25 (0:Int))),(5,.map (some (w.heap.size))),(0,.pointer none)]) (w':=w81) (by kernel_rfl) ?_
   intro a122 hF121; clear hF120
   refine ev_colGet 39 2 (.tmp 37) (.tmp 38) (atI L25 (0:Int)) hF121 hS99 rfl rfl rfl (by kernel_rfl) rfl (by kernel_rfl) (by kernel_rfl) rfl rfl hc108 ?_
   intro a124 hF123; clear hF121
   have hF125:Fr 46 a124 [(39,nI (f27 (atI L25 (0:Int)))),(38,nI (atI L25 (0:Int))),(37,.map (some (w.heap.size))),(8,.slice p100 L87.length c101),(6,.slice (some ⟨g48,if c36=(1:Int).toNat then of49 else of49+(1:Int).toNat,none⟩) L58.length (c36 - (1:Int).toNat)),(7,nI (atI L25 (0:Int))),(5,.map (some (w.heap.size))),(0,.pointer none)]:=hF123
   clear hF123
   refine ev_runs 1 hF125 (l':=[(40,nI (IntKind.i64.wrap ((f27 (atI L25 (0:Int)))+1))),(39,nI (f27 (atI L25 (0:Int)))),(38,nI (atI L25 (0:Int))),(37,.map (some (w.heap.size))),(8,.slice p100 L87.length c101),(6,.slice (some ⟨g48,if c36=(1:Int).toNat then of49 else of49+(1:Int).toNat,none⟩) L58.length (c36 - (1:Int).toNat)),(7,nI (atI L25 (0:Int))),(5,.map (some (w.heap.size))),(0,.pointer none)]) (w':=w81) (by kernel_rfl) ?_
   intro a127 hF126; clear hF125
   have hS128:=hS99.pick2
   clear hS99
   obtain ⟨hc129,hm130⟩:=ifTE hm119; clear hm119
   obtain ⟨hc131,hm132⟩:=ifTE hm130; clear hm130
   refine ev_colSet (.tmp 37) (.tmp 38) (.tmp 40) (atI L25 (0:Int)) (IntKind.i64.wrap ((f27 (atI L25 (0:Int)))+1)) hF126 hS128 rfl rfl (by kernel_rfl) (by kernel_rfl) (by kernel_rfl) rfl rfl rfl hc129 hc131 (l':=[(40,nI (IntKind.i64.wrap ((f27 (atI L25 (0:Int)))+1))),(39,nI (f27 (atI L25 (0:Int)))),(38,nI (atI L25 (0:Int))),(37,.map (some (w.heap.size))),(8,.slice p100 L87.length c101),(6,.slice (some ⟨g48,if c36=(1:Int).toNat then of49 else of49+(1:Int).toNat,none⟩) L58.length (c36 - (1:Int).toNat)),(7,nI (atI L25 (0:Int))),(5,.map (some (w.heap.size))),(0,.pointer none)]) (by kernel_rfl) ?_
   intro w133 a134 hS135 hF136; clear hF126 hS128
   refine wpList_nil ?_
   have hF137:=hF136.keep [0,5,6,8]
   clear hF136
   refine thenN (wp_region_lit ?_)
   refine ev_runs 2 hF137 (l':=[(42,.slice p100 L87.length c101),(41,.slice (some ⟨g48,if c36=(1:Int).toNat then of49 else of49+(1:Int).toNat,none⟩) L58.length (c36 - (1:Int).toNat)),(8,.slice p100 L87.length c101),(6,.slice (some ⟨g48,if c36=(1:Int).toNat then of49 else of49+(1:Int).toNat,none⟩) L58.length (c36 - (1:Int).toNat)),(5,.map (some (w.heap.size))),(0,.pointer none)]) (w':=w133) (by kernel_rfl) ?_
   intro a139 hF138; clear hF137
   have hS140:=hS135.pick1
   clear hS135
   refine ev_call 66 #[.slice p100 L87.length c101] hF138 rfl rfl (by kernel_rfl) rfl (by kernel_rfl) (fun w=>by kernel_rfl) ?_
   obtain ⟨L141,hx142,hm143⟩:=bind1E hm132; clear hm132
   refine (live_places.ok hS140 hx142).mono ?_
   rintro _ w144 ⟨z148,rfl,hS146⟩ a145 hF147; clear hF138 hS140
   obtain ⟨hl153,p150,c151,rfl,hp152⟩:=St.shape hS146 1 rfl
   have hS154:=hS146.pick1.pick3
   clear hS146
   obtain ⟨L155,hx156,hm157⟩:=bind1E hm143; clear hm143
   refine ev_appO 34 rfl 44 (.tmp 41) (.tmp 43) hF147 rfl rfl (by kernel_rfl) rfl rfl rfl rfl rfl hS154 hx156 ?_
   intro p158 c159 w160 a161 hS162 hp163 hF164; clear hF147 hS154
   have hF165:=hF164.keep [0,5,8,42,43,44]; clear hF164
   refine ev_runK 1 hF165 [0,5,6] (l':=[(6,.slice p158 L155.length c159),(5,.map (some (w.heap.size))),(0,.pointer none)]) (w':=w160) (by kernel_rfl) ?_
   intro a167 hF166; clear hF165
   refine wpList_nil ?_
   have hS168:=hS162.pick1.drop.pick1.drop
   clear hS162
   refine blockN ?_
   exact thenN ⟨k28,Nat.lt_succ_self _,.slice p158 L155.length c159,L155,(updM f27 (atI L25 (0:Int)) (IntKind.i64.wrap ((f27 (atI L25 (0:Int)))+1))),hF166,hS168,hm157⟩
 rw [hc41] at hF39
 have hm169:=ifNot hc41 hm34; clear hm34
 refine ev_condF hF39 rfl rfl ?_
 refine wp_exit ?_
 refine thenE ?_
 refine thenE ?_
 refine blockE ?_
 refine thenN (wp_seq (wp_region_lit ?_))
 refine ev_runK 2 hF39 [4] (l':=[(4,.map (some (w.heap.size)))]) (w':=w30) (by kernel_rfl) ?_
 intro a171 hF170; clear hF39
 refine wpList_nil ?_
 have hS172:=hS32.drop
 clear hS32
 refine thenN ?_
 refine wp_ret ?_
 obtain rfl:=Option.some.inj hm169
 refine ev_ret hF170 [4] (.map (some (w.heap.size))) rfl rfl rfl ?_
 exact ⟨_,rfl,hS172⟩
def live_thoseN.l1b (rec37:Option (List Int)):Option (List Int):=some ([])
def live_thoseN.l1:Nat→Option (List Int)
  | 0=>none
  | kI+1=>live_thoseN.l1b (live_thoseN.l1 kI)
def live_thoseN.m (k:Nat) (K1:List Int) (i2:Bool):Option (List Int):=bind1 (live_reachedN.m k K1) fun f8=>live_thoseN.l1 k
theorem live_thoseN.ok {w0 w:World} {ps:List Piece} {k:Nat} {pa1:Option Addr} {ca1:Nat} {K1:List Int} (hA1:ArgInts w0 (.slice pa1 K1.length ca1) K1) {i2:Bool} {r0:List Int} (hS:St w0 [] (ps) w) (hm:live_thoseN.m k K1 i2=some r0) :
    Calls Try.prog 61 #[.pointer none,.slice pa1 K1.length ca1,.bool (i2)] w fun e w'=>∃ vr0,e=.returned (vr0)∧St w0 [] (RowP vr0 r0::ps) w':=by
 refine ev_enterL 34 [.pointer none,.slice pa1 K1.length ca1,.bool (i2)] Try.func61 rfl rfl (by simp) ?_
 intro a hF
 have hF0:Fr 34 a [(0,.pointer none),(1,.slice pa1 K1.length ca1),(2,.bool (i2))]:=hF; clear hF
 unfold live_thoseN.m at hm
 refine wp_seq (wp_region_lit ?_)
 have hS2:St w0 [] (RowP (.slice none 0 0) []::ps) w:=St.nil hS
 refine ev_runK 1 hF0 [0,1,2] (l':=[(0,.pointer none),(1,.slice pa1 K1.length ca1),(2,.bool (i2))]) (w':=w) (by kernel_rfl) ?_
 intro a4 hF3; clear hF0
 refine wpList_nil ?_
 have hS5:=hS2.drop
 clear hS2
 refine thenN (wp_seq (wp_region_lit ?_))
 refine ev_runs 2 hF3 (l':=[(12,.slice pa1 K1.length ca1),(11,.pointer none),(0,.pointer none),(1,.slice pa1 K1.length ca1),(2,.bool (i2))]) (w':=w) (by kernel_rfl) ?_
 intro a7 hF6; clear hF3
 refine ev_call 81 #[.pointer none,.slice pa1 K1.length ca1] hF6 rfl rfl (by kernel_rfl) rfl (by kernel_rfl) (fun w=>by kernel_rfl) ?_
 obtain ⟨f8,hx9,hm10⟩:=bind1E hm; clear hm
 refine (live_reachedN.ok hA1 hS5 hx9).mono ?_
 rintro _ w11 ⟨z15,rfl,hS13⟩ a12 hF14; clear hF6 hS5
 refine ev_runK 1 hF14 [0,2,7] (l':=[(7,.map (some (z15))),(0,.pointer none),(2,.bool (i2))]) (w':=w11) (by kernel_rfl) ?_
 intro a18 hF17; clear hF14
 refine wpList_nil (thenN (wp_seq (wp_region_lit ?_)))
 have hS20:St w0 [] (RowP (.slice none 0 0) []::ColP (z15) f8::ps) w11:=St.nil hS13
 clear hS13
 refine ev_runs 1 hF17 (l':=[(8,.slice none 0 0),(7,.map (some (z15))),(0,.pointer none),(2,.bool (i2))]) (w':=w11) (by kernel_rfl) ?_
 intro a22 hF21; clear hF17
 refine wpList_nil (thenN (wp_seq (wp_seq (wp_region_lit ?_))))
 refine ev_runs 1 hF21 (l':=[(14,.pointer none),(8,.slice none 0 0),(7,.map (some (z15))),(0,.pointer none),(2,.bool (i2))]) (w':=w11) (by kernel_rfl) ?_
 intro a24 hF23; clear hF21
 refine ev_call 55 #[.pointer none] hF23 rfl rfl (by kernel_rfl) rfl (by kernel_rfl) (fun w=>by kernel_rfl) ?_
 refine (p_ArenaN hS20).mono ?_
 rintro _ w25 ⟨rfl,hS27⟩ a26 hF28; clear hF23 hS20
 refine ev_call 17 #[.pointer none] hF28 rfl rfl (by kernel_rfl) rfl (by kernel_rfl) (fun w=>by kernel_rfl) ?_
 refine (p_ObjectsN hS27).mono ?_
 rintro _ w29 ⟨rfl,hS31⟩ a30 hF32; clear hF28 hS27
 refine ev_runK 2 hF32 [2,7,8,16,17,18] (l':=[(18,nI 0),(17,nI 0),(16,.slice none 0 0),(8,.slice none 0 0),(7,.map (some (z15))),(2,.bool (i2))]) (w':=w29) (by kernel_rfl) ?_
 intro a34 hF33; clear hF32
 refine wpList_nil (thenN ?_)
 refine wp_block ?_
 refine wp_loop_ghost (fun kI aI wI=>Fr 34 aI [(18,nI 0),(17,nI 0),(16,.slice none 0 0),(8,.slice none 0 0),(7,.map (some (z15))),(2,.bool (i2))]∧St w0 [] (RowP (.slice none 0 0) []::ColP (z15) f8::ps) wI∧live_thoseN.l1 kI=some r0) k ⟨hF33,hS31,hm10⟩ ?_
 rintro k35 a36 w37 ⟨hF38,hS39,hm40⟩
 clear hF33 hS31 hm10
 rcases k35 with _ | k35
 · cases hm40
 have hm41:live_thoseN.l1b (live_thoseN.l1 k35)=some r0:=hm40
 clear hm40
 unfold live_thoseN.l1b at hm41
 refine wp_seq (wp_region_lit ?_)
 refine ev_runs 1 hF38 (l':=[(19,.bool false),(18,nI 0),(17,nI 0),(16,.slice none 0 0),(8,.slice none 0 0),(7,.map (some (z15))),(2,.bool (i2))]) (w':=w37) (by kernel_rfl) ?_
 intro a43 hF42; clear hF38
 refine wpList_nil (thenN (wp_seq ?_))
 refine ev_condF hF42 rfl rfl ?_
 refine wp_exit ?_
 refine thenE ?_
 refine thenE ?_
 refine blockE ?_
 refine thenN (wp_seq (wp_region_lit ?_))
 refine ev_runK 2 hF42 [6] (l':=[(6,.slice none 0 0)]) (w':=w37) (by kernel_rfl) ?_
 intro a45 hF44; clear hF42
 refine wpList_nil ?_
 have hS46:=hS39.pick1.drop
 clear hS39
 refine thenN ?_
 refine wp_ret ?_
 obtain rfl:=Option.some.inj hm41
 refine ev_ret hF44 [6] (.slice none 0 0) rfl rfl rfl ?_
 exact ⟨_,rfl,hS46⟩
def live_ReachN.m (k:Nat) (K1:List Int):Option (List Int):=bind1 (live_thoseN.m k K1 (true)) fun L8=>some (L8)
theorem live_ReachN.ok {w0 w:World} {ps:List Piece} {k:Nat} {pa1:Option Addr} {ca1:Nat} {K1:List Int} (hA1:ArgInts w0 (.slice pa1 K1.length ca1) K1) {r0:List Int} (hS:St w0 [] (ps) w) (hm:live_ReachN.m k K1=some r0) :
    Calls Try.prog 29 #[.pointer none,.slice pa1 K1.length ca1] w fun e w'=>∃ vr0,e=.returned (vr0)∧St w0 [] (RowP vr0 r0::ps) w':=by
 refine ev_enterL 8 [.pointer none,.slice pa1 K1.length ca1] Try.func29 rfl rfl (by simp) ?_
 intro a hF
 have hF0:Fr 8 a [(0,.pointer none),(1,.slice pa1 K1.length ca1)]:=hF; clear hF
 unfold live_ReachN.m at hm
 refine wp_seq (wp_region_lit ?_)
 have hS2:St w0 [] (RowP (.slice none 0 0) []::ps) w:=St.nil hS
 refine ev_runK 1 hF0 [0,1] (l':=[(0,.pointer none),(1,.slice pa1 K1.length ca1)]) (w':=w) (by kernel_rfl) ?_
 intro a4 hF3; clear hF0
 refine wpList_nil ?_
 have hS5:=hS2.drop
 clear hS2
 refine thenN (wp_seq (wp_region_lit ?_))
 refine ev_runs 2 hF3 (l':=[(6,.slice pa1 K1.length ca1),(5,.pointer none),(0,.pointer none),(1,.slice pa1 K1.length ca1)]) (w':=w) (by kernel_rfl) ?_
 intro a7 hF6; clear hF3
 refine ev_call 61 #[.pointer none,.slice pa1 K1.length ca1,.bool true] hF6 rfl rfl (by kernel_rfl) rfl (by kernel_rfl) (fun w=>by kernel_rfl) ?_
 obtain ⟨L8,hx9,hm10⟩:=bind1E hm; clear hm
 refine (live_thoseN.ok hA1 hS5 hx9).mono ?_
 rintro _ w11 ⟨z15,rfl,hS13⟩ a12 hF14; clear hF6 hS5
 obtain ⟨hl20,p17,c18,rfl,hp19⟩:=St.shape hS13 0 rfl
 refine ev_runK 1 hF14 [4] (l':=[(4,.slice p17 L8.length c18)]) (w':=w11) (by kernel_rfl) ?_
 intro a22 hF21; clear hF14
 refine wpList_nil (thenN ?_)
 refine wp_ret ?_
 obtain rfl:=Option.some.inj hm10
 refine ev_ret hF21 [4] (.slice p17 L8.length c18) rfl rfl rfl ?_
 exact ⟨_,rfl,hS13⟩
def live_LostN.m (k:Nat) (K1:List Int):Option (List Int):=bind1 (live_thoseN.m k K1 (false)) fun L8=>some (L8)
theorem live_LostN.ok {w0 w:World} {ps:List Piece} {k:Nat} {pa1:Option Addr} {ca1:Nat} {K1:List Int} (hA1:ArgInts w0 (.slice pa1 K1.length ca1) K1) {r0:List Int} (hS:St w0 [] (ps) w) (hm:live_LostN.m k K1=some r0) :
    Calls Try.prog 31 #[.pointer none,.slice pa1 K1.length ca1] w fun e w'=>∃ vr0,e=.returned (vr0)∧St w0 [] (RowP vr0 r0::ps) w':=by
 refine ev_enterL 8 [.pointer none,.slice pa1 K1.length ca1] Try.func31 rfl rfl (by simp) ?_
 intro a hF
 have hF0:Fr 8 a [(0,.pointer none),(1,.slice pa1 K1.length ca1)]:=hF; clear hF
 unfold live_LostN.m at hm
 refine wp_seq (wp_region_lit ?_)
 have hS2:St w0 [] (RowP (.slice none 0 0) []::ps) w:=St.nil hS
 refine ev_runK 1 hF0 [0,1] (l':=[(0,.pointer none),(1,.slice pa1 K1.length ca1)]) (w':=w) (by kernel_rfl) ?_
 intro a4 hF3; clear hF0
 refine wpList_nil ?_
 have hS5:=hS2.drop
 clear hS2
 refine thenN (wp_seq (wp_region_lit ?_))
 refine ev_runs 2 hF3 (l':=[(6,.slice pa1 K1.length ca1),(5,.pointer none),(0,.pointer none),(1,.slice pa1 K1.length ca1)]) (w':=w) (by kernel_rfl) ?_
 intro a7 hF6; clear hF3
 refine ev_call 61 #[.pointer none,.slice pa1 K1.length ca1,.bool false] hF6 rfl rfl (by kernel_rfl) rfl (by kernel_rfl) (fun w=>by kernel_rfl) ?_
 obtain ⟨L8,hx9,hm10⟩:=bind1E hm; clear hm
 refine (live_thoseN.ok hA1 hS5 hx9).mono ?_
 rintro _ w11 ⟨z15,rfl,hS13⟩ a12 hF14; clear hF6 hS5
 obtain ⟨hl20,p17,c18,rfl,hp19⟩:=St.shape hS13 0 rfl
 refine ev_runK 1 hF14 [4] (l':=[(4,.slice p17 L8.length c18)]) (w':=w11) (by kernel_rfl) ?_
 intro a22 hF21; clear hF14
 refine wpList_nil (thenN ?_)
 refine wp_ret ?_
 obtain rfl:=Option.some.inj hm10
 refine ev_ret hF21 [4] (.slice p17 L8.length c18) rfl rfl rfl ?_
 exact ⟨_,rfl,hS13⟩
def live_BrokenN.l6b (L20:List Int) (L35:List Int) (x37:Int) (rec40:List Int→Int→Option (List Int)) (L83:List Int) (rec101:Option (List Int)):Option (List Int):=(if (decide ((0:Int)<(L83.length:Int))) then (if (inR (0:Int) L83.length) then bind1 (pushM L35 (atI L20 x37)) fun L131=>rec40 L131 (IntKind.i64.wrap (x37+1)) else none) else rec40 L35 (IntKind.i64.wrap (x37+1)))
def live_BrokenN.l6 (L20:List Int) (L35:List Int) (x37:Int) (rec40:List Int→Int→Option (List Int)) (L83:List Int):Nat→Option (List Int)
  | 0=>none
  | kI+1=>live_BrokenN.l6b L20 L35 x37 rec40 L83 (live_BrokenN.l6 L20 L35 x37 rec40 L83 kI)
def live_BrokenN.l7b (L20:List Int) (L35:List Int) (x37:Int) (rec40:List Int→Int→Option (List Int)) (L161:List Int) (rec179:Option (List Int)):Option (List Int):=(if (decide ((0:Int)<(L161.length:Int))) then (if (inR (0:Int) L161.length) then bind1 (pushM L35 (atI L20 x37)) fun L209=>rec40 L209 (IntKind.i64.wrap (x37+1)) else none) else rec40 L35 (IntKind.i64.wrap (x37+1)))
def live_BrokenN.l7 (L20:List Int) (L35:List Int) (x37:Int) (rec40:List Int→Int→Option (List Int)) (L161:List Int):Nat→Option (List Int)
  | 0=>none
  | kI+1=>live_BrokenN.l7b L20 L35 x37 rec40 L161 (live_BrokenN.l7 L20 L35 x37 rec40 L161 kI)
def live_BrokenN.l5b (k:Nat) (L20:List Int) (rec40:List Int→Int→Option (List Int)) (L35:List Int) (x37:Int):Option (List Int):=(if (decide (x37<(L20.length:Int))) then (if (inR x37 L20.length) then bind1 (live_lookN.m k (atI L20 x37)) fun o65=>optE o65 (bind1 (live_places.m k []) fun L83=>live_BrokenN.l6 L20 L35 x37 rec40 L83 k) fun L74=>bind1 (live_places.m k L74) fun L161=>live_BrokenN.l7 L20 L35 x37 rec40 L161 k else none) else some (L35))
def live_BrokenN.l5 (k:Nat) (L20:List Int):Nat→List Int→Int→Option (List Int)
  | 0=>fun _ _=>none
  | kI+1=>live_BrokenN.l5b k L20 (live_BrokenN.l5 k L20 kI)
def live_BrokenN.m (k:Nat) (K1:List Int):Option (List Int):=bind1 (live_ReachN.m k K1) fun L20=>live_BrokenN.l5 k L20 k [] 0
theorem live_BrokenN.ok {w0 w:World} {ps:List Piece} {k:Nat} {pa1:Option Addr} {ca1:Nat} {K1:List Int} (hA1:ArgInts w0 (.slice pa1 K1.length ca1) K1) {r0:List Int} (hS:St w0 [] (ps) w) (hm:live_BrokenN.m k K1=some r0) :
    Calls Try.prog 33 #[.pointer none,.slice pa1 K1.length ca1] w fun e w'=>∃ vr0,e=.returned (vr0)∧St w0 [] (RowP vr0 r0::ps) w':=by
 refine ev_enterL 48 [.pointer none,.slice pa1 K1.length ca1] Try.func33 rfl rfl (by simp) ?_
 intro a hF
 have hF0:Fr 48 a [(0,.pointer none),(1,.slice pa1 K1.length ca1)]:=hF; clear hF
 unfold live_BrokenN.m at hm
 refine wp_seq (wp_region_lit ?_)
 have hS2:St w0 [] (RowP (.slice none 0 0) []::ps) w:=St.nil hS
 refine ev_runK 1 hF0 [0,1] (l':=[(0,.pointer none),(1,.slice pa1 K1.length ca1)]) (w':=w) (by kernel_rfl) ?_
 intro a4 hF3; clear hF0
 refine wpList_nil ?_
 have hS5:=hS2.drop
 clear hS2
 refine thenN (wp_seq (wp_region_lit ?_))
 have hS7:St w0 [] (RowP (.slice none 0 0) []::ps) w:=St.nil hS5
 clear hS5
 refine ev_runs 1 hF3 (l':=[(5,.slice none 0 0),(0,.pointer none),(1,.slice pa1 K1.length ca1)]) (w':=w) (by kernel_rfl) ?_
 intro a9 hF8; clear hF3
 refine wpList_nil (thenN (wp_seq (wp_region_lit ?_)))
 refine ev_runs 1 hF8 (l':=[(13,.pointer none),(5,.slice none 0 0),(0,.pointer none),(1,.slice pa1 K1.length ca1)]) (w':=w) (by kernel_rfl) ?_
 intro a11 hF10; clear hF8
 refine ev_call 55 #[.pointer none] hF10 rfl rfl (by kernel_rfl) rfl (by kernel_rfl) (fun w=>by kernel_rfl) ?_
 refine (p_ArenaN hS7).mono ?_
 rintro _ w12 ⟨rfl,hS14⟩ a13 hF15; clear hF10 hS7
 refine ev_runK 1 hF15 [0,1,5,6] (l':=[(6,.pointer none),(5,.slice none 0 0),(0,.pointer none),(1,.slice pa1 K1.length ca1)]) (w':=w12) (by kernel_rfl) ?_
 intro a17 hF16; clear hF15
 refine wpList_nil (thenN (wp_seq (wp_seq (wp_region_lit ?_))))
 refine ev_runs 2 hF16 (l':=[(16,.slice pa1 K1.length ca1),(15,.pointer none),(6,.pointer none),(5,.slice none 0 0),(0,.pointer none),(1,.slice pa1 K1.length ca1)]) (w':=w12) (by kernel_rfl) ?_
 intro a19 hF18; clear hF16
 refine ev_call 29 #[.pointer none,.slice pa1 K1.length ca1] hF18 rfl rfl (by kernel_rfl) rfl (by kernel_rfl) (fun w=>by kernel_rfl) ?_
 obtain ⟨L20,hx21,hm22⟩:=bind1E hm; clear hm
 refine (live_ReachN.ok hA1 hS14 hx21).mono ?_
 rintro _ w23 ⟨z27,rfl,hS25⟩ a24 hF26; clear hF18 hS14
 obtain ⟨hl32,p29,c30,rfl,hp31⟩:=St.shape hS25 0 rfl
 refine ev_runK 2 hF26 [5,6,17,18,19] (l':=[(19,nI 0),(18,nI ((L20.length:Int))),(17,.slice p29 L20.length c30),(6,.pointer none),(5,.slice none 0 0)]) (w':=w23) (by kernel_rfl) ?_
 intro a34 hF33; clear hF26
 refine wpList_nil (thenN ?_)
 refine wp_block ?_
 refine wp_loop_ghost (fun kI aI wI=>∃ (v36:Value) (L35:List Int) (x37:Int),Fr 48 aI [(19,nI x37),(18,nI ((L20.length:Int))),(17,.slice p29 L20.length c30),(6,.pointer none),(5,v36)]∧St w0 [] (RowP (.slice p29 L20.length c30) L20::RowP (v36) L35::ps) wI∧live_BrokenN.l5 k L20 kI L35 x37=some r0) k ⟨.slice none 0 0,[],0,hF33,hS25,hm22⟩ ?_
 rintro k38 a39 w40 ⟨v36,L35,x37,hF41,hS42,hm43⟩
 clear hF33 hS25 hm22
 rcases k38 with _ | k38
 · cases hm43
 have hm44:live_BrokenN.l5b k L20 (live_BrokenN.l5 k L20 k38) L35 x37=some r0:=hm43
 clear hm43
 unfold live_BrokenN.l5b at hm44
 obtain ⟨hl48,p45,c46,rfl,hp47⟩:=St.shape hS42 1 rfl
 refine wp_seq (wp_region_lit ?_)
 refine ev_runs 1 hF41 (l':=[(20,.bool (decide (x37<(L20.length:Int)))),(19,nI x37),(18,nI ((L20.length:Int))),(17,.slice p29 L20.length c30),(6,.pointer none),(5,.slice p45 L35.length c46)]) (w':=w40) (by kernel_rfl) ?_
 intro a50 hF49; clear hF41
 refine wpList_nil (thenN (wp_seq ?_))
 cases hc51:(decide (x37<(L20.length:Int)))
 case true =>
  rw [hc51] at hF49
  have hm52:=ifYes hc51 hm44; clear hm44
  refine ev_condT hF49 rfl rfl ?_
  refine wp_skip ?_
  have hF53:=hF49.keep [5,6,17,18,19]
  clear hF49
  refine thenN (wp_seq ?_)
  refine wp_block ?_
  refine wp_seq (wp_region_lit ?_)
  obtain ⟨hc54,hm55⟩:=ifTE hm52; clear hm52
  obtain ⟨g56,rfl⟩:=hp31.resolve_left (by have:=inR_spec hc54; omega)
  refine ev_one (nP g56 (x37.toNat)) w40 hF53 (by kernel_rfl) rfl (by kernel_rfl) (run_idx rfl rfl rfl rfl rfl (inR_spec hc54).1 (inR_spec hc54).2 _) (l':=[(21,nP g56 (x37.toNat)),(19,nI x37),(18,nI ((L20.length:Int))),(17,nS g56 L20 c30),(6,.pointer none),(5,.slice p45 L35.length c46)]) (by kernel_rfl) ?_
  intro a58 hF57; clear hF53
  refine ev_one (nI (atI L20 x37)) w40 hF57 (by kernel_rfl) rfl (by kernel_rfl) (run_load1 rfl rfl rfl (hS42.atI 0 rfl hc54)) (l':=[(22,nI (atI L20 x37)),(21,nP g56 (x37.toNat)),(19,nI x37),(18,nI ((L20.length:Int))),(17,nS g56 L20 c30),(6,.pointer none),(5,.slice p45 L35.length c46)]) (by kernel_rfl) ?_
  intro a60 hF59; clear hF57
  refine ev_runK 1 hF59 [5,6,8,17,18,19] (l':=[(8,nI (atI L20 x37)),(19,nI x37),(18,nI ((L20.length:Int))),(17,nS g56 L20 c30),(6,.pointer none),(5,.slice p45 L35.length c46)]) (w':=w40) (by kernel_rfl) ?_
  intro a62 hF61; clear hF59
  refine wpList_nil (thenN (wp_seq (wp_region_lit ?_)))
  refine ev_runs 2 hF61 (l':=[(25,nI (atI L20 x37)),(24,.pointer none),(8,nI (atI L20 x37)),(19,nI x37),(18,nI ((L20.length:Int))),(17,nS g56 L20 c30),(6,.pointer none),(5,.slice p45 L35.length c46)]) (w':=w40) (by kernel_rfl) ?_
  intro a64 hF63; clear hF61
  refine ev_call 65 #[.pointer none,nI (atI L20 x37)] hF63 rfl rfl (by kernel_rfl) rfl (by kernel_rfl) (fun w=>by kernel_rfl) ?_
  obtain ⟨o65,hx66,hm67⟩:=bind1E hm55; clear hm55
  refine (live_lookN.ok hS42 hx66).mono ?_
  rintro _ w68 ⟨z72,rfl,hS70⟩ a69 hF71; clear hF63 hS42
  cases o65 with
  | none =>
   have hm75:=optN hm67; clear hm67
   have hS77:St w0 [] (RowP (.slice none 0 0) []::RowP (z72) (Option.getD (none:Option (List Int)) [])::RowP (nS g56 L20 c30) L20::RowP (.slice p45 L35.length c46) L35::ps) w68:=St.nil hS70
   clear hS70
   refine ev_runK 6 hF71 [5,6,8,9,17,18,19] (l':=[(9,.slice none 0 0),(8,nI (atI L20 x37)),(19,nI x37),(18,nI ((L20.length:Int))),(17,nS g56 L20 c30),(6,.pointer none),(5,.slice p45 L35.length c46)]) (w':=w68) (by kernel_rfl) ?_
   intro a79 hF78; clear hF71
   refine wpList_nil ?_
   have hS80:=hS77.pick1.drop
   clear hS77
   refine thenN (wp_seq (wp_region_lit ?_))
   refine ev_runs 1 hF78 (l':=[(30,.slice none 0 0),(9,.slice none 0 0),(8,nI (atI L20 x37)),(19,nI x37),(18,nI ((L20.length:Int))),(17,nS g56 L20 c30),(6,.pointer none),(5,.slice p45 L35.length c46)]) (w':=w68) (by kernel_rfl) ?_
   intro a82 hF81; clear hF78
   refine ev_call 66 #[.slice none 0 0] hF81 rfl rfl (by kernel_rfl) rfl (by kernel_rfl) (fun w=>by kernel_rfl) ?_
   obtain ⟨L83,hx84,hm85⟩:=bind1E hm75; clear hm75
   refine (live_places.ok hS80 hx84).mono ?_
   rintro _ w86 ⟨z90,rfl,hS88⟩ a87 hF89; clear hF81 hS80
   obtain ⟨hl95,p92,c93,rfl,hp94⟩:=St.shape hS88 1 rfl
   refine ev_runK 2 hF89 [5,6,8,17,18,19,31,32,33] (l':=[(33,nI 0),(32,nI ((L83.length:Int))),(31,.slice p92 L83.length c93),(8,nI (atI L20 x37)),(19,nI x37),(18,nI ((L20.length:Int))),(17,nS g56 L20 c30),(6,.pointer none),(5,.slice p45 L35.length c46)]) (w':=w86) (by kernel_rfl) ?_
   intro a97 hF96; clear hF89
   refine wpList_nil ?_
   have hS98:=hS88.drop
   clear hS88
   refine thenN ?_
   refine wp_block ?_
   refine wp_loop_ghost (fun kI aI wI=>Fr 48 aI [(33,nI 0),(32,nI ((L83.length:Int))),(31,.slice p92 L83.length c93),(8,nI (atI L20 x37)),(19,nI x37),(18,nI ((L20.length:Int))),(17,nS g56 L20 c30),(6,.pointer none),(5,.slice p45 L35.length c46)]∧St w0 [] (RowP (.slice p92 L83.length c93) L83::RowP (nS g56 L20 c30) L20::RowP (.slice p45 L35.length c46) L35::ps) wI∧live_BrokenN.l6 L20 L35 x37 (live_BrokenN.l5 k L20 k38) L83 kI=some r0) k ⟨hF96,hS98,hm85⟩ ?_
   rintro k99 a100 w101 ⟨hF102,hS103,hm104⟩
   clear hF96 hS98 hm85
   rcases k99 with _ | k99
   · cases hm104
   have hm105:live_BrokenN.l6b L20 L35 x37 (live_BrokenN.l5 k L20 k38) L83 (live_BrokenN.l6 L20 L35 x37 (live_BrokenN.l5 k L20 k38) L83 k99)=some r0:=hm104
   clear hm104
   unfold live_BrokenN.l6b at hm105
   refine wp_seq (wp_region_lit ?_)
   refine ev_runs 1 hF102 (l':=[(34,.bool (decide ((0:Int)<(L83.length:Int)))),(33,nI 0),(32,nI ((L83.length:Int))),(31,.slice p92 L83.length c93),(8,nI (atI L20 x37)),(19,nI x37),(18,nI ((L20.length:Int))),(17,nS g56 L20 c30),(6,.pointer none),(5,.slice p45 L35.length c46)]) (w':=w101) (by kernel_rfl) ?_
   intro a107 hF106; clear hF102
   refine wpList_nil (thenN (wp_seq ?_))
   cases hc108:(decide ((0:Int)<(L83.length:Int)))
   case true =>
    rw [hc108] at hF106
    have hm109:=ifYes hc108 hm105; clear hm105
    refine ev_condT hF106 rfl rfl ?_
    refine wp_skip ?_
    have hF110:=hF106.keep [5,6,8,17,18,19,31,32,33]
    clear hF106
    refine thenN (wp_seq ?_)
    refine wp_block ?_
    refine wp_seq (wp_region_lit ?_)
    obtain ⟨hc111,hm112⟩:=ifTE hm109; clear hm109
    obtain ⟨g113,rfl⟩:=hp94.resolve_left (by have:=inR_spec hc111; omega)
    refine ev_one (nP g113 ((0:Int).toNat)) w101 hF110 (by kernel_rfl) rfl (by kernel_rfl) (run_idx rfl rfl rfl rfl rfl (inR_spec hc111).1 (inR_spec hc111).2 _) (l':=[(35,nP g113 ((0:Int).toNat)),(33,nI 0),(32,nI ((L83.length:Int))),(31,nS g113 L83 c93),(8,nI (atI L20 x37)),(19,nI x37),(18,nI ((L20.length:Int))),(17,nS g56 L20 c30),(6,.pointer none),(5,.slice p45 L35.length c46)]) (by kernel_rfl) ?_
    intro a115 hF114; clear hF110
    refine ev_one (nI (atI L83 (0:Int))) w101 hF114 (by kernel_rfl) rfl (by kernel_rfl) (run_load1 rfl rfl rfl (hS103.atI 0 rfl hc111)) (l':=[(36,nI (atI L83 (0:Int))),(35,nP g113 ((0:Int).toNat)),(33,nI 0),(32,nI ((L83.length:Int))),(31,nS g113 L83 c93),(8,nI (atI L20 x37)),(19,nI x37),(18,nI ((L20.length:Int))),(17,nS g56 L20 c30),(6,.pointer none),(5,.slice p45 L35.length c46)]) (by kernel_rfl) ?_
    intro a117 hF116; clear hF114
    refine ev_runK 1 hF116 [5,6,8,12,17,18,19,31,32,33] (l':=[(12,nI (atI L83 (0:Int))),(33,nI 0),(32,nI ((L83.length:Int))),(31,nS g113 L83 c93),(8,nI (atI L20 x37)),(19,nI x37),(18,nI ((L20.length:Int))),(17,nS g56 L20 c30),(6,.pointer none),(5,.slice p45 L35.length c46)]) (w':=w101) (by kernel_rfl) ?_
    intro a119 hF118; clear hF116
    refine wpList_nil (thenN (wp_seq (wp_region_lit ?_)))
    refine ev_runs 2 hF118 (l':=[(38,nI (atI L83 (0:Int))),(37,.pointer none),(12,nI (atI L83 (0:Int))),(33,nI 0),(32,nI ((L83.length:Int))),(31,nS g113 L83 c93),(8,nI (atI L20 x37)),(19,nI x37),(18,nI ((L20.length:Int))),(17,nS g56 L20 c30),(6,.pointer none),(5,.slice p45 L35.length c46)]) (w':=w101) (by kernel_rfl) ?_
    intro a121 hF120; clear hF118
    refine ev_call 21 #[.pointer none,nI (atI L83 (0:Int))] hF120 rfl rfl (by kernel_rfl) rfl (by kernel_rfl) (fun w=>by kernel_rfl) ?_
    refine (p_KindN hS103).mono ?_
    rintro _ w122 ⟨rfl,hS124⟩ a123 hF125; clear hF120 hS103
    refine ev_runK 1 hF125 [5,6,8,17,18,19,31,32,33,40] (l':=[(40,.bool true),(33,nI 0),(32,nI ((L83.length:Int))),(31,nS g113 L83 c93),(8,nI (atI L20 x37)),(19,nI x37),(18,nI ((L20.length:Int))),(17,nS g56 L20 c30),(6,.pointer none),(5,.slice p45 L35.length c46)]) (w':=w122) (by kernel_rfl) ?_
    intro a127 hF126; clear hF125
    refine wpList_nil (thenN ?_)
    refine ev_condT hF126 rfl rfl ?_
    refine wp_seq (wp_region_lit ?_)
    refine ev_runs 3 hF126 (l':=[(43,.slice (some ⟨w122.heap.size,0,none⟩) 1 1),(42,nI (atI L20 x37)),(41,.slice p45 L35.length c46),(40,.bool true),(33,nI 0),(32,nI ((L83.length:Int))),(31,nS g113 L83 c93),(8,nI (atI L20 x37)),(19,nI x37),(18,nI ((L20.length:Int))),(17,nS g56 L20 c30),(6,.pointer none),(5,.slice p45 L35.length c46)]) (w':=w122.alloc (.cells #[nI (atI L20 x37)] 3)) (by kernel_rfl) ?_
    intro a129 hF128; clear hF126
    have hS130:=hS124.pick2
    clear hS124
    obtain ⟨L131,hx132,hm133⟩:=bind1E hm112; clear hm112
    refine ev_push 44 (.tmp 41) (.tmp 43) hF128 rfl rfl rfl rfl rfl rfl rfl rfl hS130 hx132 ?_
    intro g134 c135 w136 a137 hS138 hF139; clear hF128 hS130
    refine ev_runK 1 hF139 [5,6,17,18,19] (l':=[(5,nS g134 L131 c135),(19,nI x37),(18,nI ((L20.length:Int))),(17,nS g56 L20 c30),(6,.pointer none)]) (w':=w136) (by kernel_rfl) ?_
    intro a141 hF140; clear hF139
    refine wpList_nil ?_
    have hS142:=hS138.pick1.drop
    clear hS138
    refine thenN ?_
    refine wp_exit ?_
    refine blockX (by decide) ?_
    refine thenE ?_
    refine thenE ?_
    refine blockE ?_
    refine blockN ?_
    refine thenN (wp_region_lit ?_)
    refine ev_runK 2 hF140 [5,6,17,18,19] (l':=[(19,nI (IntKind.i64.wrap (x37+1))),(5,nS g134 L131 c135),(18,nI ((L20.length:Int))),(17,nS g56 L20 c30),(6,.pointer none)]) (w':=w136) (by kernel_rfl) ?_
    intro a144 hF143; clear hF140
    refine wpList_nil ?_
    have hF145:Fr 48 a144 [(19,nI (IntKind.i64.wrap (x37+1))),(18,nI ((L20.length:Int))),(17,nS g56 L20 c30),(6,.pointer none),(5,nS g134 L131 c135)]:=Fr.re hF143 (by kernel_rfl)
    clear hF143
    have hS146:=hS142.pick1
    clear hS142
    exact thenN ⟨k38,Nat.lt_succ_self _,nS g134 L131 c135,L131,IntKind.i64.wrap (x37+1),hF145,hS146,hm133⟩
   rw [hc108] at hF106
   have hm147:=ifNot hc108 hm105; clear hm105
   refine ev_condF hF106 rfl rfl ?_
   refine wp_exit ?_
   refine thenE ?_
   refine thenE ?_
   refine blockE ?_
   refine blockN ?_
   refine thenN (wp_region_lit ?_)
   refine ev_runK 2 hF106 [5,6,17,18,19] (l':=[(19,nI (IntKind.i64.wrap (x37+1))),(18,nI ((L20.length:Int))),(17,nS g56 L20 c30),(6,.pointer none),(5,.slice p45 L35.length c46)]) (w':=w101) (by kernel_rfl) ?_
   intro a149 hF148; clear hF106
   refine wpList_nil ?_
   have hS150:=hS103.drop
   clear hS103
   exact thenN ⟨k38,Nat.lt_succ_self _,.slice p45 L35.length c46,L35,IntKind.i64.wrap (x37+1),hF148,hS150,hm147⟩
  | some L74 =>
   have hm151:=optS hm67; clear hm67
   have hS152:St w0 [] (RowP (z72) L74::RowP (nS g56 L20 c30) L20::RowP (.slice p45 L35.length c46) L35::ps) w68:=hS70
   clear hS70
   obtain ⟨hl156,p153,c154,rfl,hp155⟩:=St.shape hS152 0 rfl
   refine ev_runK 6 hF71 [5,6,8,9,17,18,19] (l':=[(9,.slice p153 L74.length c154),(8,nI (atI L20 x37)),(19,nI x37),(18,nI ((L20.length:Int))),(17,nS g56 L20 c30),(6,.pointer none),(5,.slice p45 L35.length c46)]) (w':=w68) (by kernel_rfl) ?_
   intro a158 hF157; clear hF71
   refine wpList_nil (thenN (wp_seq (wp_region_lit ?_)))
   refine ev_runs 1 hF157 (l':=[(30,.slice p153 L74.length c154),(9,.slice p153 L74.length c154),(8,nI (atI L20 x37)),(19,nI x37),(18,nI ((L20.length:Int))),(17,nS g56 L20 c30),(6,.pointer none),(5,.slice p45 L35.length c46)]) (w':=w68) (by kernel_rfl) ?_
   intro a160 hF159; clear hF157
   refine ev_call 66 #[.slice p153 L74.length c154] hF159 rfl rfl (by kernel_rfl) rfl (by kernel_rfl) (fun w=>by kernel_rfl) ?_
   obtain ⟨L161,hx162,hm163⟩:=bind1E hm151; clear hm151
   refine (live_places.ok hS152 hx162).mono ?_
   rintro _ w164 ⟨z168,rfl,hS166⟩ a165 hF167; clear hF159 hS152
   obtain ⟨hl173,p170,c171,rfl,hp172⟩:=St.shape hS166 1 rfl
   refine ev_runK 2 hF167 [5,6,8,17,18,19,31,32,33] (l':=[(33,nI 0),(32,nI ((L161.length:Int))),(31,.slice p170 L161.length c171),(8,nI (atI L20 x37)),(19,nI x37),(18,nI ((L20.length:Int))),(17,nS g56 L20 c30),(6,.pointer none),(5,.slice p45 L35.length c46)]) (w':=w164) (by kernel_rfl) ?_
   intro a175 hF174; clear hF167
   refine wpList_nil ?_
   have hS176:=hS166.drop
   clear hS166
   refine thenN ?_
   refine wp_block ?_
   refine wp_loop_ghost (fun kI aI wI=>Fr 48 aI [(33,nI 0),(32,nI ((L161.length:Int))),(31,.slice p170 L161.length c171),(8,nI (atI L20 x37)),(19,nI x37),(18,nI ((L20.length:Int))),(17,nS g56 L20 c30),(6,.pointer none),(5,.slice p45 L35.length c46)]∧St w0 [] (RowP (.slice p170 L161.length c171) L161::RowP (nS g56 L20 c30) L20::RowP (.slice p45 L35.length c46) L35::ps) wI∧live_BrokenN.l7 L20 L35 x37 (live_BrokenN.l5 k L20 k38) L161 kI=some r0) k ⟨hF174,hS176,hm163⟩ ?_
   rintro k177 a178 w179 ⟨hF180,hS181,hm182⟩
   clear hF174 hS176 hm163
   rcases k177 with _ | k177
   · cases hm182
   have hm183:live_BrokenN.l7b L20 L35 x37 (live_BrokenN.l5 k L20 k38) L161 (live_BrokenN.l7 L20 L35 x37 (live_BrokenN.l5 k L20 k38) L161 k177)=some r0:=hm182
   clear hm182
   unfold live_BrokenN.l7b at hm183
   refine wp_seq (wp_region_lit ?_)
   refine ev_runs 1 hF180 (l':=[(34,.bool (decide ((0:Int)<(L161.length:Int)))),(33,nI 0),(32,nI ((L161.length:Int))),(31,.slice p170 L161.length c171),(8,nI (atI L20 x37)),(19,nI x37),(18,nI ((L20.length:Int))),(17,nS g56 L20 c30),(6,.pointer none),(5,.slice p45 L35.length c46)]) (w':=w179) (by kernel_rfl) ?_
   intro a185 hF184; clear hF180
   refine wpList_nil (thenN (wp_seq ?_))
   cases hc186:(decide ((0:Int)<(L161.length:Int)))
   case true =>
    rw [hc186] at hF184
    have hm187:=ifYes hc186 hm183; clear hm183
    refine ev_condT hF184 rfl rfl ?_
    refine wp_skip ?_
    have hF188:=hF184.keep [5,6,8,17,18,19,31,32,33]
    clear hF184
    refine thenN (wp_seq ?_)
    refine wp_block ?_
    refine wp_seq (wp_region_lit ?_)
    obtain ⟨hc189,hm190⟩:=ifTE hm187; clear hm187
    obtain ⟨g191,rfl⟩:=hp172.resolve_left (by have:=inR_spec hc189; omega)
    refine ev_one (nP g191 ((0:Int).toNat)) w179 hF188 (by kernel_rfl) rfl (by kernel_rfl) (run_idx rfl rfl rfl rfl rfl (inR_spec hc189).1 (inR_spec hc189).2 _) (l':=[(35,nP g191 ((0:Int).toNat)),(33,nI 0),(32,nI ((L161.length:Int))),(31,nS g191 L161 c171),(8,nI (atI L20 x37)),(19,nI x37),(18,nI ((L20.length:Int))),(17,nS g56 L20 c30),(6,.pointer none),(5,.slice p45 L35.length c46)]) (by kernel_rfl) ?_
    intro a193 hF192; clear hF188
    refine ev_one (nI (atI L161 (0:Int))) w179 hF192 (by kernel_rfl) rfl (by kernel_rfl) (run_load1 rfl rfl rfl (hS181.atI 0 rfl hc189)) (l':=[(36,nI (atI L161 (0:Int))),(35,nP g191 ((0:Int).toNat)),(33,nI 0),(32,nI ((L161.length:Int))),(31,nS g191 L161 c171),(8,nI (atI L20 x37)),(19,nI x37),(18,nI ((L20.length:Int))),(17,nS g56 L20 c30),(6,.pointer none),(5,.slice p45 L35.length c46)]) (by kernel_rfl) ?_
    intro a195 hF194; clear hF192
    refine ev_runK 1 hF194 [5,6,8,12,17,18,19,31,32,33] (l':=[(12,nI (atI L161 (0:Int))),(33,nI 0),(32,nI ((L161.length:Int))),(31,nS g191 L161 c171),(8,nI (atI L20 x37)),(19,nI x37),(18,nI ((L20.length:Int))),(17,nS g56 L20 c30),(6,.pointer none),(5,.slice p45 L35.length c46)]) (w':=w179) (by kernel_rfl) ?_
    intro a197 hF196; clear hF194
    refine wpList_nil (thenN (wp_seq (wp_region_lit ?_)))
    refine ev_runs 2 hF196 (l':=[(38,nI (atI L161 (0:Int))),(37,.pointer none),(12,nI (atI L161 (0:Int))),(33,nI 0),(32,nI ((L161.length:Int))),(31,nS g191 L161 c171),(8,nI (atI L20 x37)),(19,nI x37),(18,nI ((L20.length:Int))),(17,nS g56 L20 c30),(6,.pointer none),(5,.slice p45 L35.length c46)]) (w':=w179) (by kernel_rfl) ?_
    intro a199 hF198; clear hF196
    refine ev_call 21 #[.pointer none,nI (atI L161 (0:Int))] hF198 rfl rfl (by kernel_rfl) rfl (by kernel_rfl) (fun w=>by kernel_rfl) ?_
    refine (p_KindN hS181).mono ?_
    rintro _ w200 ⟨rfl,hS202⟩ a201 hF203; clear hF198 hS181
    refine ev_runK 1 hF203 [5,6,8,17,18,19,31,32,33,40] (l':=[(40,.bool true),(33,nI 0),(32,nI ((L161.length:Int))),(31,nS g191 L161 c171),(8,nI (atI L20 x37)),(19,nI x37),(18,nI ((L20.length:Int))),(17,nS g56 L20 c30),(6,.pointer none),(5,.slice p45 L35.length c46)]) (w':=w200) (by kernel_rfl) ?_
    intro a205 hF204; clear hF203
    refine wpList_nil (thenN ?_)
    refine ev_condT hF204 rfl rfl ?_
    refine wp_seq (wp_region_lit ?_)
    refine ev_runs 3 hF204 (l':=[(43,.slice (some ⟨w200.heap.size,0,none⟩) 1 1),(42,nI (atI L20 x37)),(41,.slice p45 L35.length c46),(40,.bool true),(33,nI 0),(32,nI ((L161.length:Int))),(31,nS g191 L161 c171),(8,nI (atI L20 x37)),(19,nI x37),(18,nI ((L20.length:Int))),(17,nS g56 L20 c30),(6,.pointer none),(5,.slice p45 L35.length c46)]) (w':=w200.alloc (.cells #[nI (atI L20 x37)] 3)) (by kernel_rfl) ?_
    intro a207 hF206; clear hF204
    have hS208:=hS202.pick2
    clear hS202
    obtain ⟨L209,hx210,hm211⟩:=bind1E hm190; clear hm190
    refine ev_push 44 (.tmp 41) (.tmp 43) hF206 rfl rfl rfl rfl rfl rfl rfl rfl hS208 hx210 ?_
    intro g212 c213 w214 a215 hS216 hF217; clear hF206 hS208
    refine ev_runK 1 hF217 [5,6,17,18,19] (l':=[(5,nS g212 L209 c213),(19,nI x37),(18,nI ((L20.length:Int))),(17,nS g56 L20 c30),(6,.pointer none)]) (w':=w214) (by kernel_rfl) ?_
    intro a219 hF218; clear hF217
    refine wpList_nil ?_
    have hS220:=hS216.pick1.drop
    clear hS216
    refine thenN ?_
    refine wp_exit ?_
    refine blockX (by decide) ?_
    refine thenE ?_
    refine thenE ?_
    refine blockE ?_
    refine blockN ?_
    refine thenN (wp_region_lit ?_)
    refine ev_runK 2 hF218 [5,6,17,18,19] (l':=[(19,nI (IntKind.i64.wrap (x37+1))),(5,nS g212 L209 c213),(18,nI ((L20.length:Int))),(17,nS g56 L20 c30),(6,.pointer none)]) (w':=w214) (by kernel_rfl) ?_
    intro a222 hF221; clear hF218
    refine wpList_nil ?_
    have hF223:Fr 48 a222 [(19,nI (IntKind.i64.wrap (x37+1))),(18,nI ((L20.length:Int))),(17,nS g56 L20 c30),(6,.pointer none),(5,nS g212 L209 c213)]:=Fr.re hF221 (by kernel_rfl)
    clear hF221
    have hS224:=hS220.pick1
    clear hS220
    exact thenN ⟨k38,Nat.lt_succ_self _,nS g212 L209 c213,L209,IntKind.i64.wrap (x37+1),hF223,hS224,hm211⟩
   rw [hc186] at hF184
   have hm225:=ifNot hc186 hm183; clear hm183
   refine ev_condF hF184 rfl rfl ?_
   refine wp_exit ?_
   refine thenE ?_
   refine thenE ?_
   refine blockE ?_
   refine blockN ?_
   refine thenN (wp_region_lit ?_)
   refine ev_runK 2 hF184 [5,6,17,18,19] (l':=[(19,nI (IntKind.i64.wrap (x37+1))),(18,nI ((L20.length:Int))),(17,nS g56 L20 c30),(6,.pointer none),(5,.slice p45 L35.length c46)]) (w':=w179) (by kernel_rfl) ?_
   intro a227 hF226; clear hF184
   refine wpList_nil ?_
   have hS228:=hS181.drop
   clear hS181
   exact thenN ⟨k38,Nat.lt_succ_self _,.slice p45 L35.length c46,L35,IntKind.i64.wrap (x37+1),hF226,hS228,hm225⟩
 rw [hc51] at hF49
 have hm229:=ifNot hc51 hm44; clear hm44
 refine ev_condF hF49 rfl rfl ?_
 refine wp_exit ?_
 refine thenE ?_
 refine thenE ?_
 refine blockE ?_
 refine thenN (wp_seq (wp_region_lit ?_))
 refine ev_runK 2 hF49 [4] (l':=[(4,.slice p45 L35.length c46)]) (w':=w40) (by kernel_rfl) ?_
 intro a231 hF230; clear hF49
 refine wpList_nil ?_
 have hS232:=hS42.drop
 clear hS42
 refine thenN ?_
 refine wp_ret ?_
 obtain rfl:=Option.some.inj hm229
 refine ev_ret hF230 [4] (.slice p45 L35.length c46) rfl rfl rfl ?_
 exact ⟨_,rfl,hS232⟩
end Go.Proofs.Ytinagphkkegmnaa
