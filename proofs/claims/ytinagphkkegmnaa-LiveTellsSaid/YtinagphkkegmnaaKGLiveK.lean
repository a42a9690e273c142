/- GLiveK -/
import Derived.Test.YtinagphkkegmnaaKGLive
import Derived.Test.YtinagphkkegmnaaKRowO3
import Derived.Deep.LoopGhost
import Derived.KernelRfl
namespace Go.Proofs.Ytinagphkkegmnaa
open Go.RowKit
set_option maxRecDepth 100000
set_option maxHeartbeats 40000000
set_option linter.unusedVariables false
def live_reachedK.l1b (k:Nat) (rec31:List Int→(Int→Int)→HSt→Option ((Int→Int)×HSt)) (L25:List Int) (f27:(Int→Int)) (s28:HSt):Option ((Int→Int)×HSt):=(if (decide ((L25.length:Int) > 0)) then (if (inR (0:Int) L25.length) then bind1 (dropM L25 (1:Int)) fun L59=>bind2 (live_look.m k s28 (atI L25 (0:Int))) fun o80 s81=>optE o80 (rec31 L59 f27 s81) fun L90=>(if (wdR (atI L25 (0:Int))) then (if (decide ((f27 (atI L25 (0:Int))) > 0)) then rec31 L59 f27 s81 else (if (keyR (atI L25 (0:Int))) then (if (wdR (IntKind.i64.wrap ((f27 (atI L25 (0:Int)))+1))) then bind1 (live_places.m k L90) fun L146=>bind1 (appM L59 L146) fun L160=>rec31 L160 ((updM f27 (atI L25 (0:Int)) (IntKind.i64.wrap ((f27 (atI L25 (0:Int)))+1)))) s81 else none) else none)) else none) else none) else some (f27,s28))
def live_reachedK.l1 (k:Nat):Nat→List Int→(Int→Int)→HSt→Option ((Int→Int)×HSt)
  | 0=>fun _ _ _=>none
  | kI+1=>live_reachedK.l1b k (live_reachedK.l1 k kI)
def live_reachedK.m (k:Nat) (s0:HSt) (K1:List Int):Option ((Int→Int)×HSt):=bind1 (appM [] K1) fun L12=>live_reachedK.l1 k k L12 (fun _=>0) s0
theorem live_reachedK.ok {w0 w:World} {ps:List Piece} {k:Nat} {b0 ab0:Nat} {s0:HSt} {pa1:Option Addr} {ca1:Nat} {K1:List Int} (hA1:ArgInts w0 (.slice pa1 K1.length ca1) K1) {r0:(Int→Int)} {t0:HSt} (hS:St w0 [] (HeapP b0 ab0 s0::ps) w) (hm:live_reachedK.m k s0 K1=some (r0,t0)) :
    Calls Try.prog 81 #[nP b0 0,.slice pa1 K1.length ca1] w fun e w'=>∃ mr0,e=.returned (.map (some mr0))∧St w0 [] (HeapP b0 ab0 t0::ColP mr0 r0::ps) w':=by
 refine ev_enterL 46 [nP b0 0,.slice pa1 K1.length ca1] Try.func81 rfl rfl (by simp) ?_
 intro a hF
 have hF0:Fr 46 a [(0,nP b0 0),(1,.slice pa1 K1.length ca1)]:=hF; clear hF
 unfold live_reachedK.m at hm
 refine wp_seq (wp_region_lit ?_)
 refine ev_runK 1 hF0 [0,1] (l':=[(0,nP b0 0),(1,.slice pa1 K1.length ca1)]) (w':=w) (by kernel_rfl) ?_
 intro a2 hF1; clear hF0
 refine wpList_nil (thenN (wp_seq (wp_region_lit ?_)))
 refine ev_runs 1 hF1 (l':=[(10,.map (some (w.heap.size))),(0,nP b0 0),(1,.slice pa1 K1.length ca1)]) (w':=w.alloc (.map #[] 0)) (by kernel_rfl) ?_
 intro a5 hF4; clear hF1
 have hS6:St w0 [] (ColP (w.heap.size) (fun _=>0)::HeapP b0 ab0 s0::ps) (w.alloc (.map #[] 0)):=St.newMap hS
 refine ev_runK 1 hF4 [0,1,5] (l':=[(5,.map (some (w.heap.size))),(0,nP b0 0),(1,.slice pa1 K1.length ca1)]) (w':=w.alloc (.map #[] 0)) (by kernel_rfl) ?_
 intro a8 hF7; clear hF4
 refine wpList_nil (thenN (wp_seq (wp_region_lit ?_)))
 refine ev_runs 1 hF7 (l':=[(11,.slice pa1 K1.length ca1),(5,.map (some (w.heap.size))),(0,nP b0 0),(1,.slice pa1 K1.length ca1)]) (w':=w.alloc (.map #[] 0)) (by kernel_rfl) ?_
 intro a10 hF9; clear hF7
 obtain ⟨L12,hx13,hm14⟩:=bind1E hm; clear hm
 refine ev_appKO 34 rfl 12 (.const (.slice none 0 0)) (.tmp 11) hF9 rfl rfl (by kernel_rfl) rfl rfl rfl rfl rfl hS6 hA1 hx13 ?_
 intro p15 c16 w17 a18 hS19 hp20 hF21; clear hF9 hS6
 have hF22:=hF21.keep [0,1,5,11,12]; clear hF21
 refine ev_runK 1 hF22 [0,5,6] (l':=[(6,.slice p15 L12.length c16),(5,.map (some (w.heap.size))),(0,nP b0 0)]) (w':=w17) (by kernel_rfl) ?_
 intro a24 hF23; clear hF22
 refine wpList_nil (thenN (wp_seq ?_))
 refine wp_block ?_
 refine wp_loop_ghost (fun kI aI wI=>∃ (v26:Value) (L25:List Int) (f27:(Int→Int)) (s28:HSt),Fr 46 aI [(6,v26),(5,.map (some (w.heap.size))),(0,nP b0 0)]∧St w0 [] (OffP (v26) L25::ColP (w.heap.size) f27::HeapP b0 ab0 s28::ps) wI∧live_reachedK.l1 k kI L25 f27 s28=some (r0,t0)) k ⟨.slice p15 L12.length c16,L12,(fun _=>0),s0,hF23,hS19,hm14⟩ ?_
 rintro k29 a30 w31 ⟨v26,L25,f27,s28,hF32,hS33,hm34⟩
 clear hF23 hS19 hm14
 rcases k29 with _ | k29
 · cases hm34
 have hm35:live_reachedK.l1b k (live_reachedK.l1 k k29) L25 f27 s28=some (r0,t0):=hm34
 clear hm34
 unfold live_reachedK.l1b at hm35
 obtain ⟨hl39,p36,c37,rfl,hp38⟩:=St.shapeO hS33 0 rfl
 refine wp_seq (wp_seq (wp_region_lit ?_))
 refine ev_runK 3 hF32 [0,5,6,15] (l':=[(15,.bool (decide ((L25.length:Int) > 0))),(6,.slice p36 L25.length c37),(5,.map (some (w.heap.size))),(0,nP b0 0)]) (w':=w31) (by kernel_rfl) ?_
 intro a41 hF40; clear hF32
 refine wpList_nil (thenN ?_)
 cases hc42:(decide ((L25.length:Int) > 0))
 case true =>
  rw [hc42] at hF40
  have hm43:=ifYes hc42 hm35; clear hm35
  refine ev_condT hF40 rfl rfl ?_
  refine wp_skip ?_
  have hF44:=hF40.keep [0,5,6]
  clear hF40
  refine thenN ?_
  refine wp_block ?_
  refine wp_seq (wp_region_lit ?_)
  refine ev_runs 1 hF44 (l':=[(16,.slice p36 L25.length c37),(6,.slice p36 L25.length c37),(5,.map (some (w.heap.size))),(0,nP b0 0)]) (w':=w31) (by kernel_rfl) ?_
  intro a46 hF45; clear hF44
  obtain ⟨hc47,hm48⟩:=ifTE hm43; clear hm43
  obtain ⟨g49,of50,rfl⟩:=hp38.resolve_left (by have:=inR_spec hc47; omega)
  refine ev_one (nP g49 ((of50+(0:Int).toNat))) w31 hF45 (by kernel_rfl) rfl (by kernel_rfl) (run_idxO rfl rfl rfl rfl rfl (inR_spec hc47).1 (inR_spec hc47).2 _) (l':=[(17,nP g49 ((of50+(0:Int).toNat))),(16,.slice (some ⟨g49,of50,none⟩) L25.length c37),(6,.slice (some ⟨g49,of50,none⟩) L25.length c37),(5,.map (some (w.heap.size))),(0,nP b0 0)]) (by kernel_rfl) ?_
  intro a52 hF51; clear hF45
  refine ev_one (nI (atI L25 (0:Int))) w31 hF51 (by kernel_rfl) rfl (by kernel_rfl) (run_load1 rfl rfl rfl (St.atO hS33 0 rfl hc47)) (l':=[(18,nI (atI L25 (0:Int))),(17,nP g49 ((of50+(0:Int).toNat))),(16,.slice (some ⟨g49,of50,none⟩) L25.length c37),(6,.slice (some ⟨g49,of50,none⟩) L25.length c37),(5,.map (some (w.heap.size))),(0,nP b0 0)]) (by kernel_rfl) ?_
  intro a54 hF53; clear hF51
  refine ev_runK 1 hF53 [0,5,6,7] (l':=[(7,nI (atI L25 (0:Int))),(6,.slice (some ⟨g49,of50,none⟩) L25.length c37),(5,.map (some (w.heap.size))),(0,nP b0 0)]) (w':=w31) (by kernel_rfl) ?_
  intro a56 hF55; clear hF53
  refine wpList_nil (thenN (wp_seq (wp_region_lit ?_)))
  refine ev_runs 1 hF55 (l':=[(19,.slice (some ⟨g49,of50,none⟩) L25.length c37),(7,nI (atI L25 (0:Int))),(6,.slice (some ⟨g49,of50,none⟩) L25.length c37),(5,.map (some (w.heap.size))),(0,nP b0 0)]) (w':=w31) (by kernel_rfl) ?_
  intro a58 hF57; clear hF55
  obtain ⟨L59,hx60,hm61⟩:=bind1E hm48; clear hm48
  obtain ⟨hb62,hb63,hl64,hS65⟩:=St.cutO hS33 hx60; clear hS33
  refine ev_one (.slice (some ⟨g49,if c37=(1:Int).toNat then of50 else of50+(1:Int).toNat,none⟩) L59.length (c37 - (1:Int).toNat)) w31 hF57 (by kernel_rfl) rfl (by kernel_rfl) (by rw [hl64]; exact run_sliceLo rfl rfl rfl rfl rfl hb62.1 hb62.2.1 hb62.2.2 _) (l':=[(20,.slice (some ⟨g49,if c37=(1:Int).toNat then of50 else of50+(1:Int).toNat,none⟩) L59.length (c37 - (1:Int).toNat)),(19,.slice (some ⟨g49,of50,none⟩) L25.length c37),(7,nI (atI L25 (0:Int))),(6,.slice (some ⟨g49,of50,none⟩) L25.length c37),(5,.map (some (w.heap.size))),(0,nP b0 0)]) (by kernel_rfl) ?_
  intro a67 hF66; clear hF57
  have hF68:=hF66.keep [0,5,7,20]; clear hF66
  refine ev_runK 1 hF68 [0,5,6,7] (l':=[(6,.slice (some ⟨g49,if c37=(1:Int).toNat then of50 else of50+(1:Int).toNat,none⟩) L59.length (c37 - (1:Int).toNat)),(7,nI (atI L25 (0:Int))),(5,.map (some (w.heap.size))),(0,nP b0 0)]) (w':=w31) (by kernel_rfl) ?_
  intro a70 hF69; clear hF68
  refine wpList_nil (thenN (wp_seq (wp_region_lit ?_)))
  refine ev_runs 1 hF69 (l':=[(22,nP b0 0),(6,.slice (some ⟨g49,if c37=(1:Int).toNat then of50 else of50+(1:Int).toNat,none⟩) L59.length (c37 - (1:Int).toNat)),(7,nI (atI L25 (0:Int))),(5,.map (some (w.heap.size))),(0,nP b0 0)]) (w':=w31) (by kernel_rfl) ?_
  intro a72 hF71; clear hF69
  have hS73:=hS65.pick2
  clear hS65
  refine ev_call 55 #[nP b0 0] hF71 rfl rfl (by kernel_rfl) rfl (by kernel_rfl) (fun w=>by kernel_rfl) ?_
  refine (p_Arena hS73).mono ?_
  rintro _ w74 ⟨rfl,hS76⟩ a75 hF77; clear hF71 hS73
  refine ev_runs 1 hF77 (l':=[(24,nI (atI L25 (0:Int))),(23,nP ab0 0),(22,nP b0 0),(6,.slice (some ⟨g49,if c37=(1:Int).toNat then of50 else of50+(1:Int).toNat,none⟩) L59.length (c37 - (1:Int).toNat)),(7,nI (atI L25 (0:Int))),(5,.map (some (w.heap.size))),(0,nP b0 0)]) (w':=w74) (by kernel_rfl) ?_
  intro a79 hF78; clear hF77
  refine ev_call 65 #[nP ab0 0,nI (atI L25 (0:Int))] hF78 rfl rfl (by kernel_rfl) rfl (by kernel_rfl) (fun w=>by kernel_rfl) ?_
  obtain ⟨o80,s81,hx82,hm83⟩:=bind2E hm61; clear hm61
  refine (live_look.ok hS76 hx82).mono ?_
  rintro _ w84 ⟨z88,rfl,hS86⟩ a85 hF87; clear hF78 hS76
  cases o80 with
  | none =>
   have hm91:=optN hm83; clear hm83
   have hS93:St w0 [] (OffP (.slice none 0 0) []::HeapP b0 ab0 s81::RowP (z88) (Option.getD (none:Option (List Int)) [])::OffP (.slice (some ⟨g49,if c37=(1:Int).toNat then of50 else of50+(1:Int).toNat,none⟩) L59.length (c37 - (1:Int).toNat)) L59::ColP (w.heap.size) f27::ps) w84:=St.nilO hS86
   clear hS86
   refine ev_runK 6 hF87 [0,5,6,7,8,9] (l':=[(9,.bool false),(8,.slice none 0 0),(6,.slice (some ⟨g49,if c37=(1:Int).toNat then of50 else of50+(1:Int).toNat,none⟩) L59.length (c37 - (1:Int).toNat)),(7,nI (atI L25 (0:Int))),(5,.map (some (w.heap.size))),(0,nP b0 0)]) (w':=w84) (by kernel_rfl) ?_
   intro a95 hF94; clear hF87
   refine wpList_nil ?_
   have hS96:=hS93.pick2.drop
   clear hS93
   refine thenN (wp_seq (wp_seq (wp_region_lit ?_)))
   refine ev_runK 8 hF94 [0,5,6,7,8,36] (l':=[(36,.bool true),(8,.slice none 0 0),(6,.slice (some ⟨g49,if c37=(1:Int).toNat then of50 else of50+(1:Int).toNat,none⟩) L59.length (c37 - (1:Int).toNat)),(7,nI (atI L25 (0:Int))),(5,.map (some (w.heap.size))),(0,nP b0 0)]) (w':=w84) (by kernel_rfl) ?_
   intro a98 hF97; clear hF94
   refine wpList_nil (thenN ?_)
   refine ev_condT hF97 rfl rfl ?_
   refine wp_exit ?_
   refine thenE ?_
   refine blockE ?_
   have hF99:=hF97.keep [0,5,6]
   clear hF97
   have hS100:=hS96.drop
   clear hS96
   have hS101:=hS100.pick2.pick2
   clear hS100
   exact thenN ⟨k29,Nat.lt_succ_self _,.slice (some ⟨g49,if c37=(1:Int).toNat then of50 else of50+(1:Int).toNat,none⟩) L59.length (c37 - (1:Int).toNat),L59,f27,s81,hF99,hS101,hm91⟩
  | some L90 =>
   have hm102:=optS hm83; clear hm83
   have hS103:St w0 [] (HeapP b0 ab0 s81::RowP (z88) L90::OffP (.slice (some ⟨g49,if c37=(1:Int).toNat then of50 else of50+(1:Int).toNat,none⟩) L59.length (c37 - (1:Int).toNat)) L59::ColP (w.heap.size) f27::ps) w84:=hS86
   clear hS86
   obtain ⟨hl107,p104,c105,rfl,hp106⟩:=St.shape hS103 1 rfl
   refine ev_runK 6 hF87 [0,5,6,7,8,9] (l':=[(9,.bool true),(8,.slice p104 L90.length c105),(6,.slice (some ⟨g49,if c37=(1:Int).toNat then of50 else of50+(1:Int).toNat,none⟩) L59.length (c37 - (1:Int).toNat)),(7,nI (atI L25 (0:Int))),(5,.map (some (w.heap.size))),(0,nP b0 0)]) (w':=w84) (by kernel_rfl) ?_
   intro a109 hF108; clear hF87
   refine wpList_nil (thenN (wp_seq (wp_seq (wp_region_lit ?_))))
   refine ev_runs 5 hF108 (l':=[(33,nI (atI L25 (0:Int))),(32,.map (some (w.heap.size))),(31,.bool false),(30,.bool false),(29,.bool true),(9,.bool true),(8,.slice p104 L90.length c105),(6,.slice (some ⟨g49,if c37=(1:Int).toNat then of50 else of50+(1:Int).toNat,none⟩) L59.length (c37 - (1:Int).toNat)),(7,nI (atI L25 (0:Int))),(5,.map (some (w.heap.size))),(0,nP b0 0)]) (w':=w84) (by kernel_rfl) ?_
   intro a111 hF110; clear hF108
   obtain ⟨hc112,hm113⟩:=ifTE hm102; clear hm102
   refine ev_colGetG 34 3 (.tmp 32) (.tmp 33) (atI L25 (0:Int)) hF110 hS103 rfl (by kernel_rfl) rfl (by kernel_rfl) rfl (by kernel_rfl) (by kernel_rfl) rfl rfl hc112 ?_
   intro a115 hF114; clear hF110
   have hF116:Fr 46 a115 [(34,nI (f27 (atI L25 (0:Int)))),(33,nI (atI L25 (0:Int))),(32,.map (some (w.heap.size))),(31,.bool false),(30,.bool false),(29,.bool true),(9,.bool true),(8,.slice p104 L90.length c105),(6,.slice (some ⟨g49,if c37=(1:Int).toNat then of50 else of50+(1:Int).toNat,none⟩) L59.length (c37 - (1:Int).toNat)),(7,nI (atI L25 (0:Int))),(5,.map (some (w.heap.size))),(0,nP b0 0)]:=hF114
   clear hF114
   refine ev_runK 2 hF116 [0,5,6,7,8,36] (l':=[(36,.bool (decide ((f27 (atI L25 (0:Int))) > 0))),(8,.slice p104 L90.length c105),(6,.slice (some ⟨g49,if c37=(1:Int).toNat then of50 else of50+(1:Int).toNat,none⟩) L59.length (c37 - (1:Int).toNat)),(7,nI (atI L25 (0:Int))),(5,.map (some (w.heap.size))),(0,nP b0 0)]) (w':=w84) (by kernel_rfl) ?_
   intro a118 hF117; clear hF116
   refine wpList_nil (thenN ?_)
   cases hc119:(decide ((f27 (atI L25 (0:Int))) > 0))
   case true =>
    rw [hc119] at hF117
    have hm120:=ifYes hc119 hm113; clear hm113
    refine ev_condT hF117 rfl rfl ?_
    refine wp_exit ?_
    refine thenE ?_
    refine blockE ?_
    have hF121:=hF117.keep [0,5,6]
    clear hF117
    have hS122:=hS103.pick1.drop
    clear hS103
    have hS123:=hS122.pick2.pick2
    clear hS122
    exact thenN ⟨k29,Nat.lt_succ_self _,.slice (some ⟨g49,if c37=(1:Int).toNat then of50 else of50+(1:Int).toNat,none⟩) L59.length (c37 - (1:Int).toNat),L59,f27,s81,hF121,hS123,hm120⟩
   rw [hc119] at hF117
   have hm124:=ifNot hc119 hm113; clear hm113
   refine ev_condF hF117 rfl rfl ?_
   refine wp_skip ?_
   have hF125:=hF117.keep [0,5,6,7,8]
   clear hF117
   refine thenN (wp_seq (wp_region_lit ?_))
   refine ev_runs 2 hF125 (l':=[(38,nI (atI L25 (0:Int))),(37,.map (some (w.heap.size))),(8,.slice p104 L90.length c105),(6,.slice (some ⟨g49,if c37=(1:Int).toNat then of50 else of50+(1:Int).toNat,none⟩) L59.length (c37 - (1:Int).toNat)),(7,nI (atI L25 (0:Int))),(5,.map (some (w.heap.size))),(0,nP b0 0)]) (w':=w84) (by kernel_rfl) ?_
   intro a127 hF126; clear hF125
   refine ev_colGet 39 3 (.tmp 37) (.tmp 38) (atI L25 (0:Int)) hF126 hS103 rfl rfl rfl (by kernel_rfl) rfl (by kernel_rfl) (by kernel_rfl) rfl rfl hc112 ?_
   intro a129 hF128; clear hF126
   have hF130:Fr 46 a129 [(39,nI (f27 (atI L25 (0:Int)))),(38,nI (atI L25 (0:Int))),(37,.map (some (w.heap.size))),(8,.slice p104 L90.length c105),(6,.slice (some ⟨g49,if c37=(1:Int).toNat then of50 else of50+(1:Int).toNat,none⟩) L59.length (c37 - (1:Int).toNat)),(7,nI (atI L25 (0:Int))),(5,.map (some (w.heap.size))),(0,nP b0 0)]:=hF128
   clear hF128
   refine ev_runs 1 hF130 (l':=[(40,nI (IntKind.i64.wrap ((f27 (atI L25 (0:Int)))+1))),(39,nI (f27 (atI L25 (0:Int)))),(38,nI (atI L25 (0:Int))),(37,.map (some (w.heap.size))),(8,.slice p104 L90.length c105),(6,.slice (some ⟨g49,if c37=(1:Int).toNat then of50 else of50+(1:Int).toNat,none⟩) L59.length (c37 - (1:Int).toNat)),(7,nI (atI L25 (0:Int))),(5,.map (some (w.heap.size))),(0,nP b0 0)]) (w':=w84) (by kernel_rfl) ?_
   intro a132 hF131; clear hF130
   have hS133:=hS103.pick3
   clear hS103
   obtain ⟨hc134,hm135⟩:=ifTE hm124; clear hm124
   obtain ⟨hc136,hm137⟩:=ifTE hm135; clear hm135
   refine ev_colSet (.tmp 37) (.tmp 38) (.tmp 40) (atI L25 (0:Int)) (IntKind.i64.wrap ((f27 (atI L25 (0:Int)))+1)) hF131 hS133 rfl rfl (by kernel_rfl) (by kernel_rfl) (by kernel_rfl) rfl rfl rfl hc134 hc136 (l':=[(40,nI (IntKind.i64.wrap ((f27 (atI L25 (0:Int)))+1))),(39,nI (f27 (atI L25 (0:Int)))),(38,nI (atI L25 (0:Int))),(37,.map (some (w.heap.size))),(8,.slice p104 L90.length c105),(6,.slice (some ⟨g49,if c37=(1:Int).toNat then of50 else of50+(1:Int).toNat,none⟩) L59.length (c37 - (1:Int).toNat)),(7,nI (atI L25 (0:Int))),(5,.map (some (w.heap.size))),(0,nP b0 0)]) (by kernel_rfl) ?_
   intro w138 a139 hS140 hF141; clear hF131 hS133
   refine wpList_nil ?_
   have hF142:=hF141.keep [0,5,6,8]
   clear hF141
   refine thenN (wp_region_lit ?_)
   refine ev_runs 2 hF142 (l':=[(42,.slice p104 L90.length c105),(41,.slice (some ⟨g49,if c37=(1:Int).toNat then of50 else of50+(1:Int).toNat,none⟩) L59.length (c37 - (1:Int).toNat)),(8,.slice p104 L90.length c105),(6,.slice (some ⟨g49,if c37=(1:Int).toNat then of50 else of50+(1:Int).toNat,none⟩) L59.length (c37 - (1:Int).toNat)),(5,.map (some (w.heap.size))),(0,nP b0 0)]) (w':=w138) (by kernel_rfl) ?_
   intro a144 hF143; clear hF142
   have hS145:=hS140.pick2
   clear hS140
   refine ev_call 66 #[.slice p104 L90.length c105] hF143 rfl rfl (by kernel_rfl) rfl (by kernel_rfl) (fun w=>by kernel_rfl) ?_
   obtain ⟨L146,hx147,hm148⟩:=bind1E hm137; clear hm137
   refine (live_places.ok hS145 hx147).mono ?_
   rintro _ w149 ⟨z153,rfl,hS151⟩ a150 hF152; clear hF143 hS145
   obtain ⟨hl158,p155,c156,rfl,hp157⟩:=St.shape hS151 1 rfl
   have hS159:=hS151.pick1.pick4
   clear hS151
   obtain ⟨L160,hx161,hm162⟩:=bind1E hm148; clear hm148
   refine ev_appO 34 rfl 44 (.tmp 41) (.tmp 43) hF152 rfl rfl (by kernel_rfl) rfl rfl rfl rfl rfl hS159 hx161 ?_
   intro p163 c164 w165 a166 hS167 hp168 hF169; clear hF152 hS159
   have hF170:=hF169.keep [0,5,8,42,43,44]; clear hF169
   refine ev_runK 1 hF170 [0,5,6] (l':=[(6,.slice p163 L160.length c164),(5,.map (some (w.heap.size))),(0,nP b0 0)]) (w':=w165) (by kernel_rfl) ?_
   intro a172 hF171; clear hF170
   refine wpList_nil ?_
   have hS173:=hS167.pick1.drop.pick1.drop
   clear hS167
   refine blockN ?_
   exact thenN ⟨k29,Nat.lt_succ_self _,.slice p163 L160.length c164,L160,(updM f27 (atI L25 (0:Int)) (IntKind.i64.wrap ((f27 (atI L25 (0:Int)))+1))),s81,hF171,hS173,hm162⟩
 rw [hc42] at hF40
 have hm174:=ifNot hc42 hm35; clear hm35
 refine ev_condF hF40 rfl rfl ?_
 refine wp_exit ?_
 refine thenE ?_
 refine thenE ?_
 refine blockE ?_
 refine thenN (wp_seq (wp_region_lit ?_))
 refine ev_runK 2 hF40 [4] (l':=[(4,.map (some (w.heap.size)))]) (w':=w31) (by kernel_rfl) ?_
 intro a176 hF175; clear hF40
 refine wpList_nil ?_
 have hS177:=hS33.drop
 clear hS33
 refine thenN ?_
 refine wp_ret ?_
 have hS178:=hS177.pick1
 clear hS177
 simp only [Option.some.injEq,Prod.mk.injEq] at hm174
 obtain ⟨rfl,rfl⟩:=hm174
 refine ev_ret hF175 [4] (.map (some (w.heap.size))) rfl rfl rfl ?_
 exact ⟨_,rfl,hS178⟩
def live_thoseK.j4 (x45:Int) (rec48:List Int→Int→Option (List Int×HSt)) (L80:List Int):Option (List Int×HSt):=rec48 L80 (IntKind.i64.wrap (x45+1))
def live_thoseK.l3b (i2:Bool) (f8:(Int→Int)) (s9:HSt) (rec48:List Int→Int→Option (List Int×HSt)) (L43:List Int) (x45:Int):Option (List Int×HSt):=(if (decide (x45<((hObjsF s9.a).length:Int))) then (if (inR x45 (hObjsF s9.a).length) then (if (wdR (atI (hObjsF s9.a) x45)) then (if ((decide ((f8 (atI (hObjsF s9.a) x45)) > 0)) == (i2)) then bind1 (pushM L43 (atI (hObjsF s9.a) x45)) fun L100=>live_thoseK.j4 x45 rec48 L100 else live_thoseK.j4 x45 rec48 L43) else none) else none) else some (L43,s9))
def live_thoseK.l3 (i2:Bool) (f8:(Int→Int)) (s9:HSt):Nat→List Int→Int→Option (List Int×HSt)
  | 0=>fun _ _=>none
  | kI+1=>live_thoseK.l3b i2 f8 s9 (live_thoseK.l3 i2 f8 s9 kI)
def live_thoseK.m (k:Nat) (s0:HSt) (K1:List Int) (i2:Bool):Option (List Int×HSt):=bind2 (live_reachedK.m k s0 K1) fun f8 s9=>live_thoseK.l3 i2 f8 s9 k [] 0
theorem live_thoseK.ok {w0 w:World} {ps:List Piece} {k:Nat} {b0 ab0:Nat} {s0:HSt} {pa1:Option Addr} {ca1:Nat} {K1:List Int} (hA1:ArgInts w0 (.slice pa1 K1.length ca1) K1) {i2:Bool} {r0:List Int} {t0:HSt} (hS:St w0 [] (HeapP b0 ab0 s0::ps) w) (hm:live_thoseK.m k s0 K1 i2=some (r0,t0)) :
    Calls Try.prog 61 #[nP b0 0,.slice pa1 K1.length ca1,.bool (i2)] w fun e w'=>∃ vr0,e=.returned (vr0)∧St w0 [] (HeapP b0 ab0 t0::RowP vr0 r0::ps) w':=by
 refine ev_enterL 34 [nP b0 0,.slice pa1 K1.length ca1,.bool (i2)] Try.func61 rfl rfl (by simp) ?_
 intro a hF
 have hF0:Fr 34 a [(0,nP b0 0),(1,.slice pa1 K1.length ca1),(2,.bool (i2))]:=hF; clear hF
 unfold live_thoseK.m at hm
 refine wp_seq (wp_region_lit ?_)
 have hS2:St w0 [] (RowP (.slice none 0 0) []::HeapP b0 ab0 s0::ps) w:=St.nil hS
 refine ev_runK 1 hF0 [0,1,2] (l':=[(0,nP b0 0),(1,.slice pa1 K1.length ca1),(2,.bool (i2))]) (w':=w) (by kernel_rfl) ?_
 intro a4 hF3; clear hF0
 refine wpList_nil ?_
 have hS5:=hS2.drop
 clear hS2
 refine thenN (wp_seq (wp_region_lit ?_))
 refine ev_runs 2 hF3 (l':=[(12,.slice pa1 K1.length ca1),(11,nP b0 0),(0,nP b0 0),(1,.slice pa1 K1.length ca1),(2,.bool (i2))]) (w':=w) (by kernel_rfl) ?_
 intro a7 hF6; clear hF3
 refine ev_call 81 #[nP b0 0,.slice pa1 K1.length ca1] hF6 rfl rfl (by kernel_rfl) rfl (by kernel_rfl) (fun w=>by kernel_rfl) ?_
 obtain ⟨f8,s9,hx10,hm11⟩:=bind2E hm; clear hm
 refine (live_reachedK.ok hA1 hS5 hx10).mono ?_
 rintro _ w12 ⟨z16,rfl,hS14⟩ a13 hF15; clear hF6 hS5
 refine ev_runK 1 hF15 [0,2,7] (l':=[(7,.map (some (z16))),(0,nP b0 0),(2,.bool (i2))]) (w':=w12) (by kernel_rfl) ?_
 intro a19 hF18; clear hF15
 refine wpList_nil (thenN (wp_seq (wp_region_lit ?_)))
 have hS21:St w0 [] (RowP (.slice none 0 0) []::HeapP b0 ab0 s9::ColP (z16) f8::ps) w12:=St.nil hS14
 clear hS14
 refine ev_runs 1 hF18 (l':=[(8,.slice none 0 0),(7,.map (some (z16))),(0,nP b0 0),(2,.bool (i2))]) (w':=w12) (by kernel_rfl) ?_
 intro a23 hF22; clear hF18
 refine wpList_nil (thenN (wp_seq (wp_seq (wp_region_lit ?_))))
 refine ev_runs 1 hF22 (l':=[(14,nP b0 0),(8,.slice none 0 0),(7,.map (some (z16))),(0,nP b0 0),(2,.bool (i2))]) (w':=w12) (by kernel_rfl) ?_
 intro a25 hF24; clear hF22
 have hS26:=hS21.pick1
 clear hS21
 refine ev_call 55 #[nP b0 0] hF24 rfl rfl (by kernel_rfl) rfl (by kernel_rfl) (fun w=>by kernel_rfl) ?_
 refine (p_Arena hS26).mono ?_
 rintro _ w27 ⟨rfl,hS29⟩ a28 hF30; clear hF24 hS26
 refine ev_call 17 #[nP ab0 0] hF30 rfl rfl (by kernel_rfl) rfl (by kernel_rfl) (fun w=>by kernel_rfl) ?_
 refine (p_Objects hS29).mono ?_
 rintro _ w31 ⟨z35,rfl,hS33⟩ a32 hF34; clear hF30 hS29
 obtain ⟨hl40,p37,c38,rfl,hp39⟩:=St.shape hS33 1 rfl
 refine ev_runK 2 hF34 [2,7,8,16,17,18] (l':=[(18,nI 0),(17,nI (((hObjsF s9.a).length:Int))),(16,.slice p37 (hObjsF s9.a).length c38),(8,.slice none 0 0),(7,.map (some (z16))),(2,.bool (i2))]) (w':=w31) (by kernel_rfl) ?_
 intro a42 hF41; clear hF34
 refine wpList_nil (thenN ?_)
 refine wp_block ?_
 refine wp_loop_ghost (fun kI aI wI=>∃ (v44:Value) (L43:List Int) (x45:Int),Fr 34 aI [(18,nI x45),(17,nI (((hObjsF s9.a).length:Int))),(16,.slice p37 (hObjsF s9.a).length c38),(8,v44),(7,.map (some (z16))),(2,.bool (i2))]∧St w0 [] (HeapP b0 ab0 s9::RowP (.slice p37 (hObjsF s9.a).length c38) (hObjsF s9.a)::RowP (v44) L43::ColP (z16) f8::ps) wI∧live_thoseK.l3 i2 f8 s9 kI L43 x45=some (r0,t0)) k ⟨.slice none 0 0,[],0,hF41,hS33,hm11⟩ ?_
 rintro k46 a47 w48 ⟨v44,L43,x45,hF49,hS50,hm51⟩
 clear hF41 hS33 hm11
 rcases k46 with _ | k46
 · cases hm51
 have hm52:live_thoseK.l3b i2 f8 s9 (live_thoseK.l3 i2 f8 s9 k46) L43 x45=some (r0,t0):=hm51
 clear hm51
 unfold live_thoseK.l3b at hm52
 obtain ⟨hl56,p53,c54,rfl,hp55⟩:=St.shape hS50 2 rfl
 refine wp_seq (wp_region_lit ?_)
 refine ev_runs 1 hF49 (l':=[(19,.bool (decide (x45<((hObjsF s9.a).length:Int)))),(18,nI x45),(17,nI (((hObjsF s9.a).length:Int))),(16,.slice p37 (hObjsF s9.a).length c38),(8,.slice p53 L43.length c54),(7,.map (some (z16))),(2,.bool (i2))]) (w':=w48) (by kernel_rfl) ?_
 intro a58 hF57; clear hF49
 refine wpList_nil (thenN (wp_seq ?_))
 cases hc59:(decide (x45<((hObjsF s9.a).length:Int)))
 case true =>
  rw [hc59] at hF57
  have hm60:=ifYes hc59 hm52; clear hm52
  refine ev_condT hF57 rfl rfl ?_
  refine wp_skip ?_
  have hF61:=hF57.keep [2,7,8,16,17,18]
  clear hF57
  refine thenN (wp_seq ?_)
  refine wp_block ?_
  refine wp_seq (wp_region_lit ?_)
  obtain ⟨hc62,hm63⟩:=ifTE hm60; clear hm60
  obtain ⟨g64,rfl⟩:=hp39.resolve_left (by have:=inR_spec hc62; omega)
  refine ev_one (nP g64 (x45.toNat)) w48 hF61 (by kernel_rfl) rfl (by kernel_rfl) (run_idx rfl rfl rfl rfl rfl (inR_spec hc62).1 (inR_spec hc62).2 _) (l':=[(20,nP g64 (x45.toNat)),(18,nI x45),(17,nI (((hObjsF s9.a).length:Int))),(16,.slice (some ⟨g64,0,none⟩) (hObjsF s9.a).length c38),(8,.slice p53 L43.length c54),(7,.map (some (z16))),(2,.bool (i2))]) (by kernel_rfl) ?_
  intro a66 hF65; clear hF61
  refine ev_one (nI (atI (hObjsF s9.a) x45)) w48 hF65 (by kernel_rfl) rfl (by kernel_rfl) (run_load1 rfl rfl rfl (hS50.atI 1 rfl hc62)) (l':=[(21,nI (atI (hObjsF s9.a) x45)),(20,nP g64 (x45.toNat)),(18,nI x45),(17,nI (((hObjsF s9.a).length:Int))),(16,.slice (some ⟨g64,0,none⟩) (hObjsF s9.a).length c38),(8,.slice p53 L43.length c54),(7,.map (some (z16))),(2,.bool (i2))]) (by kernel_rfl) ?_
  intro a68 hF67; clear hF65
  refine ev_runK 1 hF67 [2,7,8,10,16,17,18] (l':=[(10,nI (atI (hObjsF s9.a) x45)),(18,nI x45),(17,nI (((hObjsF s9.a).length:Int))),(16,.slice (some ⟨g64,0,none⟩) (hObjsF s9.a).length c38),(8,.slice p53 L43.length c54),(7,.map (some (z16))),(2,.bool (i2))]) (w':=w48) (by kernel_rfl) ?_
  intro a70 hF69; clear hF67
  refine wpList_nil (thenN (wp_seq (wp_region_lit ?_)))
  refine ev_runs 2 hF69 (l':=[(23,nI (atI (hObjsF s9.a) x45)),(22,.map (some (z16))),(10,nI (atI (hObjsF s9.a) x45)),(18,nI x45),(17,nI (((hObjsF s9.a).length:Int))),(16,.slice (some ⟨g64,0,none⟩) (hObjsF s9.a).length c38),(8,.slice p53 L43.length c54),(7,.map (some (z16))),(2,.bool (i2))]) (w':=w48) (by kernel_rfl) ?_
  intro a72 hF71; clear hF69
  obtain ⟨hc73,hm74⟩:=ifTE hm63; clear hm63
  refine ev_colGet 24 3 (.tmp 22) (.tmp 23) (atI (hObjsF s9.a) x45) hF71 hS50 rfl rfl rfl (by kernel_rfl) rfl (by kernel_rfl) (by kernel_rfl) rfl rfl hc73 ?_
  intro a76 hF75; clear hF71
  have hF77:Fr 34 a76 [(24,nI (f8 (atI (hObjsF s9.a) x45))),(23,nI (atI (hObjsF s9.a) x45)),(22,.map (some (z16))),(10,nI (atI (hObjsF s9.a) x45)),(18,nI x45),(17,nI (((hObjsF s9.a).length:Int))),(16,.slice (some ⟨g64,0,none⟩) (hObjsF s9.a).length c38),(8,.slice p53 L43.length c54),(7,.map (some (z16))),(2,.bool (i2))]:=hF75
  clear hF75
  refine ev_runK 3 hF77 [2,7,8,10,16,17,18,27] (l':=[(27,.bool ((decide ((f8 (atI (hObjsF s9.a) x45)) > 0)) == (i2))),(10,nI (atI (hObjsF s9.a) x45)),(18,nI x45),(17,nI (((hObjsF s9.a).length:Int))),(16,.slice (some ⟨g64,0,none⟩) (hObjsF s9.a).length c38),(8,.slice p53 L43.length c54),(7,.map (some (z16))),(2,.bool (i2))]) (w':=w48) (by kernel_rfl) ?_
  intro a79 hF78; clear hF77
  refine wpList_nil (thenN ?_)
  refine joinQ (fun aI wI=>∃ (v81:Value) (L80:List Int),Fr 34 aI [(18,nI x45),(17,nI (((hObjsF s9.a).length:Int))),(16,.slice (some ⟨g64,0,none⟩) (hObjsF s9.a).length c38),(8,v81),(7,.map (some (z16))),(2,.bool (i2))]∧St w0 [] (HeapP b0 ab0 s9::RowP (.slice (some ⟨g64,0,none⟩) (hObjsF s9.a).length c38) (hObjsF s9.a)::RowP (v81) L80::ColP (z16) f8::ps) wI∧live_thoseK.j4 x45 (live_thoseK.l3 i2 f8 s9 k46) L80=some (r0,t0)) ?_ ?_
  rotate_left
  · rintro a83 w84 ⟨v81,L80,hF85,hS86,hm87⟩
    clear hF78 hS50 hm74
    unfold live_thoseK.j4 at hm87
    obtain ⟨hl92,p89,c90,rfl,hp91⟩:=St.shape hS86 2 rfl
    refine blockN ?_
    refine thenN (wp_region_lit ?_)
    refine ev_runK 2 hF85 [2,7,8,16,17,18] (l':=[(18,nI (IntKind.i64.wrap (x45+1))),(17,nI (((hObjsF s9.a).length:Int))),(16,.slice (some ⟨g64,0,none⟩) (hObjsF s9.a).length c38),(8,.slice p89 L80.length c90),(7,.map (some (z16))),(2,.bool (i2))]) (w':=w84) (by kernel_rfl) ?_
    intro a94 hF93; clear hF85
    refine wpList_nil ?_
    exact thenN ⟨k46,Nat.lt_succ_self _,.slice p89 L80.length c90,L80,IntKind.i64.wrap (x45+1),hF93,hS86,hm87⟩
  · skip
    cases hc95:((decide ((f8 (atI (hObjsF s9.a) x45)) > 0)) == (i2))
    case true =>
     rw [hc95] at hF78
     have hm96:=ifYes hc95 hm74; clear hm74
     refine ev_condT hF78 rfl rfl ?_
     refine wp_region_lit ?_
     refine ev_runs 3 hF78 (l':=[(30,.slice (some ⟨w48.heap.size,0,none⟩) 1 1),(29,nI (atI (hObjsF s9.a) x45)),(28,.slice p53 L43.length c54),(27,.bool true),(10,nI (atI (hObjsF s9.a) x45)),(18,nI x45),(17,nI (((hObjsF s9.a).length:Int))),(16,.slice (some ⟨g64,0,none⟩) (hObjsF s9.a).length c38),(8,.slice p53 L43.length c54),(7,.map (some (z16))),(2,.bool (i2))]) (w':=w48.alloc (.cells #[nI (atI (hObjsF s9.a) x45)] 3)) (by kernel_rfl) ?_
     intro a98 hF97; clear hF78
     have hS99:=hS50.pick2
     clear hS50
     obtain ⟨L100,hx101,hm102⟩:=bind1E hm96; clear hm96
     refine ev_push 31 (.tmp 28) (.tmp 30) hF97 rfl rfl rfl rfl rfl rfl rfl rfl hS99 hx101 ?_
     intro g103 c104 w105 a106 hS107 hF108; clear hF97 hS99
     refine ev_runK 1 hF108 [2,7,8,16,17,18] (l':=[(8,nS g103 L100 c104),(18,nI x45),(17,nI (((hObjsF s9.a).length:Int))),(16,.slice (some ⟨g64,0,none⟩) (hObjsF s9.a).length c38),(7,.map (some (z16))),(2,.bool (i2))]) (w':=w105) (by kernel_rfl) ?_
     intro a110 hF109; clear hF108
     refine wpList_nil ?_
     have hF111:Fr 34 a110 [(18,nI x45),(17,nI (((hObjsF s9.a).length:Int))),(16,.slice (some ⟨g64,0,none⟩) (hObjsF s9.a).length c38),(8,nS g103 L100 c104),(7,.map (some (z16))),(2,.bool (i2))]:=Fr.re hF109 (by kernel_rfl)
     clear hF109
     have hS112:=hS107.pick3.pick1.pick3.pick3
     clear hS107
     exact thenN ⟨nS g103 L100 c104,L100,hF111,hS112,hm102⟩
    rw [hc95] at hF78
    have hm113:=ifNot hc95 hm74; clear hm74
    refine ev_condF hF78 rfl rfl ?_
    refine wp_skip ?_
    have hF114:=hF78.keep [2,7,8,16,17,18]
    clear hF78
    exact thenN ⟨.slice p53 L43.length c54,L43,hF114,hS50,hm113⟩
 rw [hc59] at hF57
 have hm115:=ifNot hc59 hm52; clear hm52
 refine ev_condF hF57 rfl rfl ?_
 refine wp_exit ?_
 refine thenE ?_
 refine thenE ?_
 refine blockE ?_
 refine thenN (wp_seq (wp_region_lit ?_))
 refine ev_runK 2 hF57 [6] (l':=[(6,.slice p53 L43.length c54)]) (w':=w48) (by kernel_rfl) ?_
 intro a117 hF116; clear hF57
 refine wpList_nil ?_
 have hS118:=hS50.pick1.drop.pick2.drop
 clear hS50
 refine thenN ?_
 refine wp_ret ?_
 simp only [Option.some.injEq,Prod.mk.injEq] at hm115
 obtain ⟨rfl,rfl⟩:=hm115
 refine ev_ret hF116 [6] (.slice p53 L43.length c54) rfl rfl rfl ?_
 exact ⟨_,rfl,hS118⟩
def live_ReachK.m (k:Nat) (s0:HSt) (K1:List Int):Option (List Int×HSt):=bind2 (live_thoseK.m k s0 K1 (true)) fun L8 s9=>some (L8,s9)
theorem live_ReachK.ok {w0 w:World} {ps:List Piece} {k:Nat} {b0 ab0:Nat} {s0:HSt} {pa1:Option Addr} {ca1:Nat} {K1:List Int} (hA1:ArgInts w0 (.slice pa1 K1.length ca1) K1) {r0:List Int} {t0:HSt} (hS:St w0 [] (HeapP b0 ab0 s0::ps) w) (hm:live_ReachK.m k s0 K1=some (r0,t0)) :
    Calls Try.prog 29 #[nP b0 0,.slice pa1 K1.length ca1] w fun e w'=>∃ vr0,e=.returned (vr0)∧St w0 [] (HeapP b0 ab0 t0::RowP vr0 r0::ps) w':=by
 refine ev_enterL 8 [nP b0 0,.slice pa1 K1.length ca1] Try.func29 rfl rfl (by simp) ?_
 intro a hF
 have hF0:Fr 8 a [(0,nP b0 0),(1,.slice pa1 K1.length ca1)]:=hF; clear hF
 unfold live_ReachK.m at hm
 refine wp_seq (wp_region_lit ?_)
 have hS2:St w0 [] (RowP (.slice none 0 0) []::HeapP b0 ab0 s0::ps) w:=St.nil hS
 refine ev_runK 1 hF0 [0,1] (l':=[(0,nP b0 0),(1,.slice pa1 K1.length ca1)]) (w':=w) (by kernel_rfl) ?_
 intro a4 hF3; clear hF0
 refine wpList_nil ?_
 have hS5:=hS2.drop
 clear hS2
 refine thenN (wp_seq (wp_region_lit ?_))
 refine ev_runs 2 hF3 (l':=[(6,.slice pa1 K1.length ca1),(5,nP b0 0),(0,nP b0 0),(1,.slice pa1 K1.length ca1)]) (w':=w) (by kernel_rfl) ?_
 intro a7 hF6; clear hF3
 refine ev_call 61 #[nP b0 0,.slice pa1 K1.length ca1,.bool true] hF6 rfl rfl (by kernel_rfl) rfl (by kernel_rfl) (fun w=>by kernel_rfl) ?_
 obtain ⟨L8,s9,hx10,hm11⟩:=bind2E hm; clear hm
 refine (live_thoseK.ok hA1 hS5 hx10).mono ?_
 rintro _ w12 ⟨z16,rfl,hS14⟩ a13 hF15; clear hF6 hS5
 obtain ⟨hl21,p18,c19,rfl,hp20⟩:=St.shape hS14 1 rfl
 refine ev_runK 1 hF15 [4] (l':=[(4,.slice p18 L8.length c19)]) (w':=w12) (by kernel_rfl) ?_
 intro a23 hF22; clear hF15
 refine wpList_nil (thenN ?_)
 refine wp_ret ?_
 simp only [Option.some.injEq,Prod.mk.injEq] at hm11
 obtain ⟨rfl,rfl⟩:=hm11
 refine ev_ret hF22 [4] (.slice p18 L8.length c19) rfl rfl rfl ?_
 exact ⟨_,rfl,hS14⟩
def live_LostK.m (k:Nat) (s0:HSt) (K1:List Int):Option (List Int×HSt):=bind2 (live_thoseK.m k s0 K1 (false)) fun L8 s9=>some (L8,s9)
theorem live_LostK.ok {w0 w:World} {ps:List Piece} {k:Nat} {b0 ab0:Nat} {s0:HSt} {pa1:Option Addr} {ca1:Nat} {K1:List Int} (hA1:ArgInts w0 (.slice pa1 K1.length ca1) K1) {r0:List Int} {t0:HSt} (hS:St w0 [] (HeapP b0 ab0 s0::ps) w) (hm:live_LostK.m k s0 K1=some (r0,t0)) :
    Calls Try.prog 31 #[nP b0 0,.slice pa1 K1.length ca1] w fun e w'=>∃ vr0,e=.returned (vr0)∧St w0 [] (HeapP b0 ab0 t0::RowP vr0 r0::ps) w':=by
 refine ev_enterL 8 [nP b0 0,.slice pa1 K1.length ca1] Try.func31 rfl rfl (by simp) ?_
 intro a hF
 have hF0:Fr 8 a [(0,nP b0 0),(1,.slice pa1 K1.length ca1)]:=hF; clear hF
 unfold live_LostK.m at hm
 refine wp_seq (wp_region_lit ?_)
 have hS2:St w0 [] (RowP (.slice none 0 0) []::HeapP b0 ab0 s0::ps) w:=St.nil hS
 refine ev_runK 1 hF0 [0,1] (l':=[(0,nP b0 0),(1,.slice pa1 K1.length ca1)]) (w':=w) (by kernel_rfl) ?_
 intro a4 hF3; clear hF0
 refine wpList_nil ?_
 have hS5:=hS2.drop
 clear hS2
 refine thenN (wp_seq (wp_region_lit ?_))
 refine ev_runs 2 hF3 (l':=[(6,.slice pa1 K1.length ca1),(5,nP b0 0),(0,nP b0 0),(1,.slice pa1 K1.length ca1)]) (w':=w) (by kernel_rfl) ?_
 intro a7 hF6; clear hF3
 refine ev_call 61 #[nP b0 0,.slice pa1 K1.length ca1,.bool false] hF6 rfl rfl (by kernel_rfl) rfl (by kernel_rfl) (fun w=>by kernel_rfl) ?_
 obtain ⟨L8,s9,hx10,hm11⟩:=bind2E hm; clear hm
 refine (live_thoseK.ok hA1 hS5 hx10).mono ?_
 rintro _ w12 ⟨z16,rfl,hS14⟩ a13 hF15; clear hF6 hS5
 obtain ⟨hl21,p18,c19,rfl,hp20⟩:=St.shape hS14 1 rfl
 refine ev_runK 1 hF15 [4] (l':=[(4,.slice p18 L8.length c19)]) (w':=w12) (by kernel_rfl) ?_
 intro a23 hF22; clear hF15
 refine wpList_nil (thenN ?_)
 refine wp_ret ?_
 simp only [Option.some.injEq,Prod.mk.injEq] at hm11
 obtain ⟨rfl,rfl⟩:=hm11
 refine ev_ret hF22 [4] (.slice p18 L8.length c19) rfl rfl rfl ?_
 exact ⟨_,rfl,hS14⟩
def live_BrokenK.l6b (L21:List Int) (L38:List Int) (x40:Int) (rec43:HSt→List Int→Int→Option (List Int×HSt)) (s69:HSt) (L87:List Int) (rec106:Int→Option (List Int×HSt)) (x103:Int):Option (List Int×HSt):=(if (decide (x103<(L87.length:Int))) then (if (inR x103 L87.length) then (if ((aKind s69.a.c (atI L87 x103)) == 0) then bind1 (pushM L38 (atI L21 x40)) fun L139=>rec43 s69 L139 (IntKind.i64.wrap (x40+1)) else rec106 (IntKind.i64.wrap (x103+1))) else none) else rec43 s69 L38 (IntKind.i64.wrap (x40+1)))
def live_BrokenK.l6 (L21:List Int) (L38:List Int) (x40:Int) (rec43:HSt→List Int→Int→Option (List Int×HSt)) (s69:HSt) (L87:List Int):Nat→Int→Option (List Int×HSt)
  | 0=>fun _=>none
  | kI+1=>live_BrokenK.l6b L21 L38 x40 rec43 s69 L87 (live_BrokenK.l6 L21 L38 x40 rec43 s69 L87 kI)
def live_BrokenK.l7b (L21:List Int) (L38:List Int) (x40:Int) (rec43:HSt→List Int→Int→Option (List Int×HSt)) (s69:HSt) (L175:List Int) (rec194:Int→Option (List Int×HSt)) (x191:Int):Option (List Int×HSt):=(if (decide (x191<(L175.length:Int))) then (if (inR x191 L175.length) then (if ((aKind s69.a.c (atI L175 x191)) == 0) then bind1 (pushM L38 (atI L21 x40)) fun L227=>rec43 s69 L227 (IntKind.i64.wrap (x40+1)) else rec194 (IntKind.i64.wrap (x191+1))) else none) else rec43 s69 L38 (IntKind.i64.wrap (x40+1)))
def live_BrokenK.l7 (L21:List Int) (L38:List Int) (x40:Int) (rec43:HSt→List Int→Int→Option (List Int×HSt)) (s69:HSt) (L175:List Int):Nat→Int→Option (List Int×HSt)
  | 0=>fun _=>none
  | kI+1=>live_BrokenK.l7b L21 L38 x40 rec43 s69 L175 (live_BrokenK.l7 L21 L38 x40 rec43 s69 L175 kI)
def live_BrokenK.l5b (k:Nat) (L21:List Int) (rec43:HSt→List Int→Int→Option (List Int×HSt)) (s37:HSt) (L38:List Int) (x40:Int):Option (List Int×HSt):=(if (decide (x40<(L21.length:Int))) then (if (inR x40 L21.length) then bind2 (live_look.m k s37 (atI L21 x40)) fun o68 s69=>optE o68 (bind1 (live_places.m k []) fun L87=>live_BrokenK.l6 L21 L38 x40 rec43 s69 L87 k 0) fun L78=>bind1 (live_places.m k L78) fun L175=>live_BrokenK.l7 L21 L38 x40 rec43 s69 L175 k 0 else none) else some (L38,s37))
def live_BrokenK.l5 (k:Nat) (L21:List Int):Nat→HSt→List Int→Int→Option (List Int×HSt)
  | 0=>fun _ _ _=>none
  | kI+1=>live_BrokenK.l5b k L21 (live_BrokenK.l5 k L21 kI)
def live_BrokenK.m (k:Nat) (s0:HSt) (K1:List Int):Option (List Int×HSt):=bind2 (live_ReachK.m k s0 K1) fun L21 s22=>live_BrokenK.l5 k L21 k s22 [] 0
theorem live_BrokenK.ok {w0 w:World} {ps:List Piece} {k:Nat} {b0 ab0:Nat} {s0:HSt} {pa1:Option Addr} {ca1:Nat} {K1:List Int} (hA1:ArgInts w0 (.slice pa1 K1.length ca1) K1) {r0:List Int} {t0:HSt} (hS:St w0 [] (HeapP b0 ab0 s0::ps) w) (hm:live_BrokenK.m k s0 K1=some (r0,t0)) :
    Calls Try.prog 33 #[nP b0 0,.slice pa1 K1.length ca1] w fun e w'=>∃ vr0,e=.returned (vr0)∧St w0 [] (HeapP b0 ab0 t0::RowP vr0 r0::ps) w':=by
 refine ev_enterL 48 [nP b0 0,.slice pa1 K1.length ca1] Try.func33 rfl rfl (by simp) ?_
 intro a hF
 have hF0:Fr 48 a [(0,nP b0 0),(1,.slice pa1 K1.length ca1)]:=hF; clear hF
 unfold live_BrokenK.m at hm
 refine wp_seq (wp_region_lit ?_)
 have hS2:St w0 [] (RowP (.slice none 0 0) []::HeapP b0 ab0 s0::ps) w:=St.nil hS
 refine ev_runK 1 hF0 [0,1] (l':=[(0,nP b0 0),(1,.slice pa1 K1.length ca1)]) (w':=w) (by kernel_rfl) ?_
 intro a4 hF3; clear hF0
 refine wpList_nil ?_
 have hS5:=hS2.drop
 clear hS2
 refine thenN (wp_seq (wp_region_lit ?_))
 have hS7:St w0 [] (RowP (.slice none 0 0) []::HeapP b0 ab0 s0::ps) w:=St.nil hS5
 clear hS5
 refine ev_runs 1 hF3 (l':=[(5,.slice none 0 0),(0,nP b0 0),(1,.slice pa1 K1.length ca1)]) (w':=w) (by kernel_rfl) ?_
 intro a9 hF8; clear hF3
 refine wpList_nil (thenN (wp_seq (wp_region_lit ?_)))
 refine ev_runs 1 hF8 (l':=[(13,nP b0 0),(5,.slice none 0 0),(0,nP b0 0),(1,.slice pa1 K1.length ca1)]) (w':=w) (by kernel_rfl) ?_
 intro a11 hF10; clear hF8
 have hS12:=hS7.pick1
 clear hS7
 refine ev_call 55 #[nP b0 0] hF10 rfl rfl (by kernel_rfl) rfl (by kernel_rfl) (fun w=>by kernel_rfl) ?_
 refine (p_Arena hS12).mono ?_
 rintro _ w13 ⟨rfl,hS15⟩ a14 hF16; clear hF10 hS12
 refine ev_runK 1 hF16 [0,1,5,6] (l':=[(6,nP ab0 0),(5,.slice none 0 0),(0,nP b0 0),(1,.slice pa1 K1.length ca1)]) (w':=w13) (by kernel_rfl) ?_
 intro a18 hF17; clear hF16
 refine wpList_nil (thenN (wp_seq (wp_seq (wp_region_lit ?_))))
 refine ev_runs 2 hF17 (l':=[(16,.slice pa1 K1.length ca1),(15,nP b0 0),(6,nP ab0 0),(5,.slice none 0 0),(0,nP b0 0),(1,.slice pa1 K1.length ca1)]) (w':=w13) (by kernel_rfl) ?_
 intro a20 hF19; clear hF17
 refine ev_call 29 #[nP b0 0,.slice pa1 K1.length ca1] hF19 rfl rfl (by kernel_rfl) rfl (by kernel_rfl) (fun w=>by kernel_rfl) ?_
 obtain ⟨L21,s22,hx23,hm24⟩:=bind2E hm; clear hm
 refine (live_ReachK.ok hA1 hS15 hx23).mono ?_
 rintro _ w25 ⟨z29,rfl,hS27⟩ a26 hF28; clear hF19 hS15
 obtain ⟨hl34,p31,c32,rfl,hp33⟩:=St.shape hS27 1 rfl
 refine ev_runK 2 hF28 [5,6,17,18,19] (l':=[(19,nI 0),(18,nI ((L21.length:Int))),(17,.slice p31 L21.length c32),(6,nP ab0 0),(5,.slice none 0 0)]) (w':=w25) (by kernel_rfl) ?_
 intro a36 hF35; clear hF28
 refine wpList_nil (thenN ?_)
 refine wp_block ?_
 refine wp_loop_ghost (fun kI aI wI=>∃ (s37:HSt) (v39:Value) (L38:List Int) (x40:Int),Fr 48 aI [(19,nI x40),(18,nI ((L21.length:Int))),(17,.slice p31 L21.length c32),(6,nP ab0 0),(5,v39)]∧St w0 [] (HeapP b0 ab0 s37::RowP (.slice p31 L21.length c32) L21::RowP (v39) L38::ps) wI∧live_BrokenK.l5 k L21 kI s37 L38 x40=some (r0,t0)) k ⟨s22,.slice none 0 0,[],0,hF35,hS27,hm24⟩ ?_
 rintro k41 a42 w43 ⟨s37,v39,L38,x40,hF44,hS45,hm46⟩
 clear hF35 hS27 hm24
 rcases k41 with _ | k41
 · cases hm46
 have hm47:live_BrokenK.l5b k L21 (live_BrokenK.l5 k L21 k41) s37 L38 x40=some (r0,t0):=hm46
 clear hm46
 unfold live_BrokenK.l5b at hm47
 obtain ⟨hl51,p48,c49,rfl,hp50⟩:=St.shape hS45 2 rfl
 refine wp_seq (wp_region_lit ?_)
 refine ev_runs 1 hF44 (l':=[(20,.bool (decide (x40<(L21.length:Int)))),(19,nI x40),(18,nI ((L21.length:Int))),(17,.slice p31 L21.length c32),(6,nP ab0 0),(5,.slice p48 L38.length c49)]) (w':=w43) (by kernel_rfl) ?_
 intro a53 hF52; clear hF44
 refine wpList_nil (thenN (wp_seq ?_))
 cases hc54:(decide (x40<(L21.length:Int)))
 case true =>
  rw [hc54] at hF52
  have hm55:=ifYes hc54 hm47; clear hm47
  refine ev_condT hF52 rfl rfl ?_
  refine wp_skip ?_
  have hF56:=hF52.keep [5,6,17,18,19]
  clear hF52
  refine thenN (wp_seq ?_)
  refine wp_block ?_
  refine wp_seq (wp_region_lit ?_)
  obtain ⟨hc57,hm58⟩:=ifTE hm55; clear hm55
  obtain ⟨g59,rfl⟩:=hp33.resolve_left (by have:=inR_spec hc57; omega)
  refine ev_one (nP g59 (x40.toNat)) w43 hF56 (by kernel_rfl) rfl (by kernel_rfl) (run_idx rfl rfl rfl rfl rfl (inR_spec hc57).1 (inR_spec hc57).2 _) (l':=[(21,nP g59 (x40.toNat)),(19,nI x40),(18,nI ((L21.length:Int))),(17,nS g59 L21 c32),(6,nP ab0 0),(5,.slice p48 L38.length c49)]) (by kernel_rfl) ?_
  intro a61 hF60; clear hF56
  refine ev_one (nI (atI L21 x40)) w43 hF60 (by kernel_rfl) rfl (by kernel_rfl) (run_load1 rfl rfl rfl (hS45.atI 1 rfl hc57)) (l':=[(22,nI (atI L21 x40)),(21,nP g59 (x40.toNat)),(19,nI x40),(18,nI ((L21.length:Int))),(17,nS g59 L21 c32),(6,nP ab0 0),(5,.slice p48 L38.length c49)]) (by kernel_rfl) ?_
  intro a63 hF62; clear hF60
  refine ev_runK 1 hF62 [5,6,8,17,18,19] (l':=[(8,nI (atI L21 x40)),(19,nI x40),(18,nI ((L21.length:Int))),(17,nS g59 L21 c32),(6,nP ab0 0),(5,.slice p48 L38.length c49)]) (w':=w43) (by kernel_rfl) ?_
  intro a65 hF64; clear hF62
  refine wpList_nil (thenN (wp_seq (wp_region_lit ?_)))
  refine ev_runs 2 hF64 (l':=[(25,nI (atI L21 x40)),(24,nP ab0 0),(8,nI (atI L21 x40)),(19,nI x40),(18,nI ((L21.length:Int))),(17,nS g59 L21 c32),(6,nP ab0 0),(5,.slice p48 L38.length c49)]) (w':=w43) (by kernel_rfl) ?_
  intro a67 hF66; clear hF64
  refine ev_call 65 #[nP ab0 0,nI (atI L21 x40)] hF66 rfl rfl (by kernel_rfl) rfl (by kernel_rfl) (fun w=>by kernel_rfl) ?_
  obtain ⟨o68,s69,hx70,hm71⟩:=bind2E hm58; clear hm58
  refine (live_look.ok hS45 hx70).mono ?_
  rintro _ w72 ⟨z76,rfl,hS74⟩ a73 hF75; clear hF66 hS45
  cases o68 with
  | none =>
   have hm79:=optN hm71; clear hm71
   have hS81:St w0 [] (RowP (.slice none 0 0) []::HeapP b0 ab0 s69::RowP (z76) (Option.getD (none:Option (List Int)) [])::RowP (nS g59 L21 c32) L21::RowP (.slice p48 L38.length c49) L38::ps) w72:=St.nil hS74
   clear hS74
   refine ev_runK 6 hF75 [5,6,8,9,17,18,19] (l':=[(9,.slice none 0 0),(8,nI (atI L21 x40)),(19,nI x40),(18,nI ((L21.length:Int))),(17,nS g59 L21 c32),(6,nP ab0 0),(5,.slice p48 L38.length c49)]) (w':=w72) (by kernel_rfl) ?_
   intro a83 hF82; clear hF75
   refine wpList_nil ?_
   have hS84:=hS81.pick2.drop
   clear hS81
   refine thenN (wp_seq (wp_region_lit ?_))
   refine ev_runs 1 hF82 (l':=[(30,.slice none 0 0),(9,.slice none 0 0),(8,nI (atI L21 x40)),(19,nI x40),(18,nI ((L21.length:Int))),(17,nS g59 L21 c32),(6,nP ab0 0),(5,.slice p48 L38.length c49)]) (w':=w72) (by kernel_rfl) ?_
   intro a86 hF85; clear hF82
   refine ev_call 66 #[.slice none 0 0] hF85 rfl rfl (by kernel_rfl) rfl (by kernel_rfl) (fun w=>by kernel_rfl) ?_
   obtain ⟨L87,hx88,hm89⟩:=bind1E hm79; clear hm79
   refine (live_places.ok hS84 hx88).mono ?_
   rintro _ w90 ⟨z94,rfl,hS92⟩ a91 hF93; clear hF85 hS84
   obtain ⟨hl99,p96,c97,rfl,hp98⟩:=St.shape hS92 1 rfl
   refine ev_runK 2 hF93 [5,6,8,17,18,19,31,32,33] (l':=[(33,nI 0),(32,nI ((L87.length:Int))),(31,.slice p96 L87.length c97),(8,nI (atI L21 x40)),(19,nI x40),(18,nI ((L21.length:Int))),(17,nS g59 L21 c32),(6,nP ab0 0),(5,.slice p48 L38.length c49)]) (w':=w90) (by kernel_rfl) ?_
   intro a101 hF100; clear hF93
   refine wpList_nil ?_
   have hS102:=hS92.drop
   clear hS92
   refine thenN ?_
   refine wp_block ?_
   refine wp_loop_ghost (fun kI aI wI=>∃ (x103:Int),Fr 48 aI [(33,nI x103),(32,nI ((L87.length:Int))),(31,.slice p96 L87.length c97),(8,nI (atI L21 x40)),(19,nI x40),(18,nI ((L21.length:Int))),(17,nS g59 L21 c32),(6,nP ab0 0),(5,.slice p48 L38.length c49)]∧St w0 [] (RowP (.slice p96 L87.length c97) L87::HeapP b0 ab0 s69::RowP (nS g59 L21 c32) L21::RowP (.slice p48 L38.length c49) L38::ps) wI∧live_BrokenK.l6 L21 L38 x40 (live_BrokenK.l5 k L21 k41) s69 L87 kI x103=some (r0,t0)) k ⟨0,hF100,hS102,hm89⟩ ?_
   rintro k104 a105 w106 ⟨x103,hF107,hS108,hm109⟩
   clear hF100 hS102 hm89
   rcases k104 with _ | k104
   · cases hm109
   have hm110:live_BrokenK.l6b L21 L38 x40 (live_BrokenK.l5 k L21 k41) s69 L87 (live_BrokenK.l6 L21 L38 x40 (live_BrokenK.l5 k L21 k41) s69 L87 k104) x103=some (r0,t0):=hm109
   clear hm109
   unfold live_BrokenK.l6b at hm110
   refine wp_seq (wp_region_lit ?_)
   refine ev_runs 1 hF107 (l':=[(34,.bool (decide (x103<(L87.length:Int)))),(33,nI x103),(32,nI ((L87.length:Int))),(31,.slice p96 L87.length c97),(8,nI (atI L21 x40)),(19,nI x40),(18,nI ((L21.length:Int))),(17,nS g59 L21 c32),(6,nP ab0 0),(5,.slice p48 L38.length c49)]) (w':=w106) (by kernel_rfl) ?_
   intro a112 hF111; clear hF107
   refine wpList_nil (thenN (wp_seq ?_))
   cases hc113:(decide (x103<(L87.length:Int)))
   case true =>
    rw [hc113] at hF111
    have hm114:=ifYes hc113 hm110; clear hm110
    refine ev_condT hF111 rfl rfl ?_
    refine wp_skip ?_
    have hF115:=hF111.keep [5,6,8,17,18,19,31,32,33]
    clear hF111
    refine thenN (wp_seq ?_)
    refine wp_block ?_
    refine wp_seq (wp_region_lit ?_)
    obtain ⟨hc116,hm117⟩:=ifTE hm114; clear hm114
    obtain ⟨g118,rfl⟩:=hp98.resolve_left (by have:=inR_spec hc116; omega)
    refine ev_one (nP g118 (x103.toNat)) w106 hF115 (by kernel_rfl) rfl (by kernel_rfl) (run_idx rfl rfl rfl rfl rfl (inR_spec hc116).1 (inR_spec hc116).2 _) (l':=[(35,nP g118 (x103.toNat)),(33,nI x103),(32,nI ((L87.length:Int))),(31,nS g118 L87 c97),(8,nI (atI L21 x40)),(19,nI x40),(18,nI ((L21.length:Int))),(17,nS g59 L21 c32),(6,nP ab0 0),(5,.slice p48 L38.length c49)]) (by kernel_rfl) ?_
    intro a120 hF119; clear hF115
    refine ev_one (nI (atI L87 x103)) w106 hF119 (by kernel_rfl) rfl (by kernel_rfl) (run_load1 rfl rfl rfl (hS108.atI 0 rfl hc116)) (l':=[(36,nI (atI L87 x103)),(35,nP g118 (x103.toNat)),(33,nI x103),(32,nI ((L87.length:Int))),(31,nS g118 L87 c97),(8,nI (atI L21 x40)),(19,nI x40),(18,nI ((L21.length:Int))),(17,nS g59 L21 c32),(6,nP ab0 0),(5,.slice p48 L38.length c49)]) (by kernel_rfl) ?_
    intro a122 hF121; clear hF119
    refine ev_runK 1 hF121 [5,6,8,12,17,18,19,31,32,33] (l':=[(12,nI (atI L87 x103)),(33,nI x103),(32,nI ((L87.length:Int))),(31,nS g118 L87 c97),(8,nI (atI L21 x40)),(19,nI x40),(18,nI ((L21.length:Int))),(17,nS g59 L21 c32),(6,nP ab0 0),(5,.slice p48 L38.length c49)]) (w':=w106) (by kernel_rfl) ?_
    intro a124 hF123; clear hF121
    refine wpList_nil (thenN (wp_seq (wp_region_lit ?_)))
    refine ev_runs 2 hF123 (l':=[(38,nI (atI L87 x103)),(37,nP ab0 0),(12,nI (atI L87 x103)),(33,nI x103),(32,nI ((L87.length:Int))),(31,nS g118 L87 c97),(8,nI (atI L21 x40)),(19,nI x40),(18,nI ((L21.length:Int))),(17,nS g59 L21 c32),(6,nP ab0 0),(5,.slice p48 L38.length c49)]) (w':=w106) (by kernel_rfl) ?_
    intro a126 hF125; clear hF123
    have hS127:=hS108.pick1
    clear hS108
    refine ev_call 21 #[nP ab0 0,nI (atI L87 x103)] hF125 rfl rfl (by kernel_rfl) rfl (by kernel_rfl) (fun w=>by kernel_rfl) ?_
    refine (p_Kind hS127).mono ?_
    rintro _ w128 ⟨rfl,hS130⟩ a129 hF131; clear hF125 hS127
    refine ev_runK 1 hF131 [5,6,8,17,18,19,31,32,33,40] (l':=[(40,.bool ((aKind s69.a.c (atI L87 x103)) == 0)),(33,nI x103),(32,nI ((L87.length:Int))),(31,nS g118 L87 c97),(8,nI (atI L21 x40)),(19,nI x40),(18,nI ((L21.length:Int))),(17,nS g59 L21 c32),(6,nP ab0 0),(5,.slice p48 L38.length c49)]) (w':=w128) (by kernel_rfl) ?_
    intro a133 hF132; clear hF131
    refine wpList_nil (thenN ?_)
    cases hc134:((aKind s69.a.c (atI L87 x103)) == 0)
    case true =>
     rw [hc134] at hF132
     have hm135:=ifYes hc134 hm117; clear hm117
     refine ev_condT hF132 rfl rfl ?_
     refine wp_seq (wp_region_lit ?_)
     refine ev_runs 3 hF132 (l':=[(43,.slice (some ⟨w128.heap.size,0,none⟩) 1 1),(42,nI (atI L21 x40)),(41,.slice p48 L38.length c49),(40,.bool true),(33,nI x103),(32,nI ((L87.length:Int))),(31,nS g118 L87 c97),(8,nI (atI L21 x40)),(19,nI x40),(18,nI ((L21.length:Int))),(17,nS g59 L21 c32),(6,nP ab0 0),(5,.slice p48 L38.length c49)]) (w':=w128.alloc (.cells #[nI (atI L21 x40)] 3)) (by kernel_rfl) ?_
     intro a137 hF136; clear hF132
     have hS138:=hS130.pick3
     clear hS130
     obtain ⟨L139,hx140,hm141⟩:=bind1E hm135; clear hm135
     refine ev_push 44 (.tmp 41) (.tmp 43) hF136 rfl rfl rfl rfl rfl rfl rfl rfl hS138 hx140 ?_
     intro g142 c143 w144 a145 hS146 hF147; clear hF136 hS138
     refine ev_runK 1 hF147 [5,6,17,18,19] (l':=[(5,nS g142 L139 c143),(19,nI x40),(18,nI ((L21.length:Int))),(17,nS g59 L21 c32),(6,nP ab0 0)]) (w':=w144) (by kernel_rfl) ?_
     intro a149 hF148; clear hF147
     refine wpList_nil ?_
     have hS150:=hS146.pick2.drop
     clear hS146
     refine thenN ?_
     refine wp_exit ?_
     refine blockX (by decide) ?_
     refine thenE ?_
     refine thenE ?_
     refine blockE ?_
     refine blockN ?_
     refine thenN (wp_region_lit ?_)
     refine ev_runK 2 hF148 [5,6,17,18,19] (l':=[(19,nI (IntKind.i64.wrap (x40+1))),(5,nS g142 L139 c143),(18,nI ((L21.length:Int))),(17,nS g59 L21 c32),(6,nP ab0 0)]) (w':=w144) (by kernel_rfl) ?_
     intro a152 hF151; clear hF148
     refine wpList_nil ?_
     have hF153:Fr 48 a152 [(19,nI (IntKind.i64.wrap (x40+1))),(18,nI ((L21.length:Int))),(17,nS g59 L21 c32),(6,nP ab0 0),(5,nS g142 L139 c143)]:=Fr.re hF151 (by kernel_rfl)
     clear hF151
     have hS154:=hS150.pick2.pick2
     clear hS150
     exact thenN ⟨k41,Nat.lt_succ_self _,s69,nS g142 L139 c143,L139,IntKind.i64.wrap (x40+1),hF153,hS154,hm141⟩
    rw [hc134] at hF132
    have hm155:=ifNot hc134 hm117; clear hm117
    refine ev_condF hF132 rfl rfl ?_
    refine wp_skip ?_
    have hF156:=hF132.keep [5,6,8,17,18,19,31,32,33]
    clear hF132
    refine blockN ?_
    refine thenN (wp_region_lit ?_)
    refine ev_runK 2 hF156 [5,6,8,17,18,19,31,32,33] (l':=[(33,nI (IntKind.i64.wrap (x103+1))),(32,nI ((L87.length:Int))),(31,nS g118 L87 c97),(8,nI (atI L21 x40)),(19,nI x40),(18,nI ((L21.length:Int))),(17,nS g59 L21 c32),(6,nP ab0 0),(5,.slice p48 L38.length c49)]) (w':=w128) (by kernel_rfl) ?_
    intro a158 hF157; clear hF156
    refine wpList_nil ?_
    have hS159:=hS130.pick3.pick3.pick2.pick3
    clear hS130
    exact thenN ⟨k104,Nat.lt_succ_self _,IntKind.i64.wrap (x103+1),hF157,hS159,hm155⟩
   rw [hc113] at hF111
   have hm160:=ifNot hc113 hm110; clear hm110
   refine ev_condF hF111 rfl rfl ?_
   refine wp_exit ?_
   refine thenE ?_
   refine thenE ?_
   refine blockE ?_
   refine blockN ?_
   refine thenN (wp_region_lit ?_)
   refine ev_runK 2 hF111 [5,6,17,18,19] (l':=[(19,nI (IntKind.i64.wrap (x40+1))),(18,nI ((L21.length:Int))),(17,nS g59 L21 c32),(6,nP ab0 0),(5,.slice p48 L38.length c49)]) (w':=w106) (by kernel_rfl) ?_
   intro a162 hF161; clear hF111
   refine wpList_nil ?_
   have hS163:=hS108.drop
   clear hS108
   exact thenN ⟨k41,Nat.lt_succ_self _,s69,.slice p48 L38.length c49,L38,IntKind.i64.wrap (x40+1),hF161,hS163,hm160⟩
  | some L78 =>
   have hm164:=optS hm71; clear hm71
   have hS165:St w0 [] (HeapP b0 ab0 s69::RowP (z76) L78::RowP (nS g59 L21 c32) L21::RowP (.slice p48 L38.length c49) L38::ps) w72:=hS74
   clear hS74
   obtain ⟨hl169,p166,c167,rfl,hp168⟩:=St.shape hS165 1 rfl
   refine ev_runK 6 hF75 [5,6,8,9,17,18,19] (l':=[(9,.slice p166 L78.length c167),(8,nI (atI L21 x40)),(19,nI x40),(18,nI ((L21.length:Int))),(17,nS g59 L21 c32),(6,nP ab0 0),(5,.slice p48 L38.length c49)]) (w':=w72) (by kernel_rfl) ?_
   intro a171 hF170; clear hF75
   refine wpList_nil (thenN (wp_seq (wp_region_lit ?_)))
   refine ev_runs 1 hF170 (l':=[(30,.slice p166 L78.length c167),(9,.slice p166 L78.length c167),(8,nI (atI L21 x40)),(19,nI x40),(18,nI ((L21.length:Int))),(17,nS g59 L21 c32),(6,nP ab0 0),(5,.slice p48 L38.length c49)]) (w':=w72) (by kernel_rfl) ?_
   intro a173 hF172; clear hF170
   have hS174:=hS165.pick1
   clear hS165
   refine ev_call 66 #[.slice p166 L78.length c167] hF172 rfl rfl (by kernel_rfl) rfl (by kernel_rfl) (fun w=>by kernel_rfl) ?_
   obtain ⟨L175,hx176,hm177⟩:=bind1E hm164; clear hm164
   refine (live_places.ok hS174 hx176).mono ?_
   rintro _ w178 ⟨z182,rfl,hS180⟩ a179 hF181; clear hF172 hS174
   obtain ⟨hl187,p184,c185,rfl,hp186⟩:=St.shape hS180 1 rfl
   refine ev_runK 2 hF181 [5,6,8,17,18,19,31,32,33] (l':=[(33,nI 0),(32,nI ((L175.length:Int))),(31,.slice p184 L175.length c185),(8,nI (atI L21 x40)),(19,nI x40),(18,nI ((L21.length:Int))),(17,nS g59 L21 c32),(6,nP ab0 0),(5,.slice p48 L38.length c49)]) (w':=w178) (by kernel_rfl) ?_
   intro a189 hF188; clear hF181
   refine wpList_nil ?_
   have hS190:=hS180.drop
   clear hS180
   refine thenN ?_
   refine wp_block ?_
   refine wp_loop_ghost (fun kI aI wI=>∃ (x191:Int),Fr 48 aI [(33,nI x191),(32,nI ((L175.length:Int))),(31,.slice p184 L175.length c185),(8,nI (atI L21 x40)),(19,nI x40),(18,nI ((L21.length:Int))),(17,nS g59 L21 c32),(6,nP ab0 0),(5,.slice p48 L38.length c49)]∧St w0 [] (RowP (.slice p184 L175.length c185) L175::HeapP b0 ab0 s69::RowP (nS g59 L21 c32) L21::RowP (.slice p48 L38.length c49) L38::ps) wI∧live_BrokenK.l7 L21 L38 x40 (live_BrokenK.l5 k L21 k41) s69 L175 kI x191=some (r0,t0)) k ⟨0,hF188,hS190,hm177⟩ ?_
   rintro k192 a193 w194 ⟨x191,hF195,hS196,hm197⟩
   clear hF188 hS190 hm177
   rcases k192 with _ | k192
   · cases hm197
   have hm198:live_BrokenK.l7b L21 L38 x40 (live_BrokenK.l5 k L21 k41) s69 L175 (live_BrokenK.l7 L21 L38 x40 (live_BrokenK.l5 k L21 k41) s69 L175 k192) x191=some (r0,t0):=hm197
   clear hm197
   unfold live_BrokenK.l7b at hm198
   refine wp_seq (wp_region_lit ?_)
   refine ev_runs 1 hF195 (l':=[(34,.bool (decide (x191<(L175.length:Int)))),(33,nI x191),(32,nI ((L175.length:Int))),(31,.slice p184 L175.length c185),(8,nI (atI L21 x40)),(19,nI x40),(18,nI ((L21.length:Int))),(17,nS g59 L21 c32),(6,nP ab0 0),(5,.slice p48 L38.length c49)]) (w':=w194) (by kernel_rfl) ?_
   intro a200 hF199; clear hF195
   refine wpList_nil (thenN (wp_seq ?_))
   cases hc201:(decide (x191<(L175.length:Int)))
   case true =>
    rw [hc201] at hF199
    have hm202:=ifYes hc201 hm198; clear hm198
    refine ev_condT hF199 rfl rfl ?_
    refine wp_skip ?_
    have hF203:=hF199.keep [5,6,8,17,18,19,31,32,33]
    clear hF199
    refine thenN (wp_seq ?_)
    refine wp_block ?_
    refine wp_seq (wp_region_lit ?_)
    obtain ⟨hc204,hm205⟩:=ifTE hm202; clear hm202
    obtain ⟨g206,rfl⟩:=hp186.resolve_left (by have:=inR_spec hc204; omega)
    refine ev_one (nP g206 (x191.toNat)) w194 hF203 (by kernel_rfl) rfl (by kernel_rfl) (run_idx rfl rfl rfl rfl rfl (inR_spec hc204).1 (inR_spec hc204).2 _) (l':=[(35,nP g206 (x191.toNat)),(33,nI x191),(32,nI ((L175.length:Int))),(31,nS g206 L175 c185),(8,nI (atI L21 x40)),(19,nI x40),(18,nI ((L21.length:Int))),(17,nS g59 L21 c32),(6,nP ab0 0),(5,.slice p48 L38.length c49)]) (by kernel_rfl) ?_
    intro a208 hF207; clear hF203
    refine ev_one (nI (atI L175 x191)) w194 hF207 (by kernel_rfl) rfl (by kernel_rfl) (run_load1 rfl rfl rfl (hS196.atI 0 rfl hc204)) (l':=[(36,nI (atI L175 x191)),(35,nP g206 (x191.toNat)),(33,nI x191),(32,nI ((L175.length:Int))),(31,nS g206 L175 c185),(8,nI (atI L21 x40)),(19,nI x40),(18,nI ((L21.length:Int))),(17,nS g59 L21 c32),(6,nP ab0 0),(5,.slice p48 L38.length c49)]) (by kernel_rfl) ?_
    intro a210 hF209; clear hF207
    refine ev_runK 1 hF209 [5,6,8,12,17,18,19,31,32,33] (l':=[(12,nI (atI L175 x191)),(33,nI x191),(32,nI ((L175.length:Int))),(31,nS g206 L175 c185),(8,nI (atI L21 x40)),(19,nI x40),(18,nI ((L21.length:Int))),(17,nS g59 L21 c32),(6,nP ab0 0),(5,.slice p48 L38.length c49)]) (w':=w194) (by kernel_rfl) ?_
    intro a212 hF211; clear hF209
    refine wpList_nil (thenN (wp_seq (wp_region_lit ?_)))
    refine ev_runs 2 hF211 (l':=[(38,nI (atI L175 x191)),(37,nP ab0 0),(12,nI (atI L175 x191)),(33,nI x191),(32,nI ((L175.length:Int))),(31,nS g206 L175 c185),(8,nI (atI L21 x40)),(19,nI x40),(18,nI ((L21.length:Int))),(17,nS g59 L21 c32),(6,nP ab0 0),(5,.slice p48 L38.length c49)]) (w':=w194) (by kernel_rfl) ?_
    intro a214 hF213; clear hF211
    have hS215:=hS196.pick1
    clear hS196
    refine ev_call 21 #[nP ab0 0,nI (atI L175 x191)] hF213 rfl rfl (by kernel_rfl) rfl (by kernel_rfl) (fun w=>by kernel_rfl) ?_
    refine (p_Kind hS215).mono ?_
    rintro _ w216 ⟨rfl,hS218⟩ a217 hF219; clear hF213 hS215
    refine ev_runK 1 hF219 [5,6,8,17,18,19,31,32,33,40] (l':=[(40,.bool ((aKind s69.a.c (atI L175 x191)) == 0)),(33,nI x191),(32,nI ((L175.length:Int))),(31,nS g206 L175 c185),(8,nI (atI L21 x40)),(19,nI x40),(18,nI ((L21.length:Int))),(17,nS g59 L21 c32),(6,nP ab0 0),(5,.slice p48 L38.length c49)]) (w':=w216) (by kernel_rfl) ?_
    intro a221 hF220; clear hF219
    refine wpList_nil (thenN ?_)
    cases hc222:((aKind s69.a.c (atI L175 x191)) == 0)
    case true =>
     rw [hc222] at hF220
     have hm223:=ifYes hc222 hm205; clear hm205
     refine ev_condT hF220 rfl rfl ?_
     refine wp_seq (wp_region_lit ?_)
     refine ev_runs 3 hF220 (l':=[(43,.slice (some ⟨w216.heap.size,0,none⟩) 1 1),(42,nI (atI L21 x40)),(41,.slice p48 L38.length c49),(40,.bool true),(33,nI x191),(32,nI ((L175.length:Int))),(31,nS g206 L175 c185),(8,nI (atI L21 x40)),(19,nI x40),(18,nI ((L21.length:Int))),(17,nS g59 L21 c32),(6,nP ab0 0),(5,.slice p48 L38.length c49)]) (w':=w216.alloc (.cells #[nI (atI L21 x40)] 3)) (by kernel_rfl) ?_
     intro a225 hF224; clear hF220
     have hS226:=hS218.pick3
     clear hS218
     obtain ⟨L227,hx228,hm229⟩:=bind1E hm223; clear hm223
     refine ev_push 44 (.tmp 41) (.tmp 43) hF224 rfl rfl rfl rfl rfl rfl rfl rfl hS226 hx228 ?_
     intro g230 c231 w232 a233 hS234 hF235; clear hF224 hS226
     refine ev_runK 1 hF235 [5,6,17,18,19] (l':=[(5,nS g230 L227 c231),(19,nI x40),(18,nI ((L21.length:Int))),(17,nS g59 L21 c32),(6,nP ab0 0)]) (w':=w232) (by kernel_rfl) ?_
     intro a237 hF236; clear hF235
     refine wpList_nil ?_
     have hS238:=hS234.pick2.drop
     clear hS234
     refine thenN ?_
     refine wp_exit ?_
     refine blockX (by decide) ?_
     refine thenE ?_
     refine thenE ?_
     refine blockE ?_
     refine blockN ?_
     refine thenN (wp_region_lit ?_)
     refine ev_runK 2 hF236 [5,6,17,18,19] (l':=[(19,nI (IntKind.i64.wrap (x40+1))),(5,nS g230 L227 c231),(18,nI ((L21.length:Int))),(17,nS g59 L21 c32),(6,nP ab0 0)]) (w':=w232) (by kernel_rfl) ?_
     intro a240 hF239; clear hF236
     refine wpList_nil ?_
     have hF241:Fr 48 a240 [(19,nI (IntKind.i64.wrap (x40+1))),(18,nI ((L21.length:Int))),(17,nS g59 L21 c32),(6,nP ab0 0),(5,nS g230 L227 c231)]:=Fr.re hF239 (by kernel_rfl)
     clear hF239
     have hS242:=hS238.pick2.pick2
     clear hS238
     exact thenN ⟨k41,Nat.lt_succ_self _,s69,nS g230 L227 c231,L227,IntKind.i64.wrap (x40+1),hF241,hS242,hm229⟩
    rw [hc222] at hF220
    have hm243:=ifNot hc222 hm205; clear hm205
    refine ev_condF hF220 rfl rfl ?_
    refine wp_skip ?_
    have hF244:=hF220.keep [5,6,8,17,18,19,31,32,33]
    clear hF220
    refine blockN ?_
    refine thenN (wp_region_lit ?_)
    refine ev_runK 2 hF244 [5,6,8,17,18,19,31,32,33] (l':=[(33,nI (IntKind.i64.wrap (x191+1))),(32,nI ((L175.length:Int))),(31,nS g206 L175 c185),(8,nI (atI L21 x40)),(19,nI x40),(18,nI ((L21.length:Int))),(17,nS g59 L21 c32),(6,nP ab0 0),(5,.slice p48 L38.length c49)]) (w':=w216) (by kernel_rfl) ?_
    intro a246 hF245; clear hF244
    refine wpList_nil ?_
    have hS247:=hS218.pick3.pick3.pick2.pick3
    clear hS218
    exact thenN ⟨k192,Nat.lt_succ_self _,IntKind.i64.wrap (x191+1),hF245,hS247,hm243⟩
   rw [hc201] at hF199
   have hm248:=ifNot hc201 hm198; clear hm198
   refine ev_condF hF199 rfl rfl ?_
   refine wp_exit ?_
   refine thenE ?_
   refine thenE ?_
   refine blockE ?_
   refine blockN ?_
   refine thenN (wp_region_lit ?_)
   refine ev_runK 2 hF199 [5,6,17,18,19] (l':=[(19,nI (IntKind.i64.wrap (x40+1))),(18,nI ((L21.length:Int))),(17,nS g59 L21 c32),(6,nP ab0 0),(5,.slice p48 L38.length c49)]) (w':=w194) (by kernel_rfl) ?_
   intro a250 hF249; clear hF199
   refine wpList_nil ?_
   have hS251:=hS196.drop
   clear hS196
   exact thenN ⟨k41,Nat.lt_succ_self _,s69,.slice p48 L38.length c49,L38,IntKind.i64.wrap (x40+1),hF249,hS251,hm248⟩
 rw [hc54] at hF52
 have hm252:=ifNot hc54 hm47; clear hm47
 refine ev_condF hF52 rfl rfl ?_
 refine wp_exit ?_
 refine thenE ?_
 refine thenE ?_
 refine blockE ?_
 refine thenN (wp_seq (wp_region_lit ?_))
 refine ev_runK 2 hF52 [4] (l':=[(4,.slice p48 L38.length c49)]) (w':=w43) (by kernel_rfl) ?_
 intro a254 hF253; clear hF52
 refine wpList_nil ?_
 have hS255:=hS45.pick1.drop
 clear hS45
 refine thenN ?_
 refine wp_ret ?_
 simp only [Option.some.injEq,Prod.mk.injEq] at hm252
 obtain ⟨rfl,rfl⟩:=hm252
 refine ev_ret hF253 [4] (.slice p48 L38.length c49) rfl rfl rfl ?_
 exact ⟨_,rfl,hS255⟩
end Go.Proofs.Ytinagphkkegmnaa
