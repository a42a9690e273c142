/- GRingPlays -/
import Derived.Test.YtffnjpapggidlaaGreatKG12
import Derived.Test.YtffnjpapggidlaaGreatKArgX
import Derived.Test.YtffnjpapggidlaaGreatKRBegin
import Derived.Test.YtffnjpapggidlaaGreatKGRStep
import Derived.Test.YtffnjpapggidlaaGreatKGRef12
import Derived.Deep.LoopGhost
import Derived.KernelRfl
namespace Go.Proofs.YtffnjpapggidlaaGreat
open Go.RowKit
set_option linter.unusedVariables false
def law12_alike.l4b (s0:HSt) (u0:HSt) (x77:Int) (rec80:Int→Option (Bool×HSt×HSt)) (rec125:Int→Option (Bool×HSt×HSt)) (x122:Int):Option (Bool×HSt×HSt):=(if (inR x77 (hObjsF u0.a).length) then (if (decide (x122<(aLen u0.a.c (atI (hObjsF u0.a) x77)))) then bind2 (pLoad (atI (hObjsF u0.a) x77) x122 s0) fun x150 x151=>bind2 (pLoad (atI (hObjsF u0.a) x77) x122 u0) fun x164 x165=>(if (x150 != x164) then some (false,s0,u0) else rec125 (IntKind.i64.wrap (x122+1))) else rec80 (IntKind.i64.wrap (x77+1))) else none)
def law12_alike.l4 (s0:HSt) (u0:HSt) (x77:Int) (rec80:Int→Option (Bool×HSt×HSt)):Nat→Int→Option (Bool×HSt×HSt)
  | 0=>fun _=>none
  | kI+1=>law12_alike.l4b s0 u0 x77 rec80 (law12_alike.l4 s0 u0 x77 rec80 kI)
def law12_alike.l3b (s0:HSt) (u0:HSt) (k:Nat) (rec80:Int→Option (Bool×HSt×HSt)) (x77:Int):Option (Bool×HSt×HSt):=(if (decide (x77<((hObjsF u0.a).length:Int))) then (if (inR x77 (hObjsF u0.a).length) then (if (inR (atI (hObjsF u0.a) x77) (u0.a.c).length) then bind1 (pColour (atI (hObjsF u0.a) x77) s0) fun x100=>(if (x100 != (u0.col (atI (hObjsF u0.a) x77))) then some (false,s0,u0) else law12_alike.l4 s0 u0 x77 rec80 k 0) else none) else none) else some (true,s0,u0))
def law12_alike.l3 (s0:HSt) (u0:HSt) (k:Nat):Nat→Int→Option (Bool×HSt×HSt)
  | 0=>fun _=>none
  | kI+1=>law12_alike.l3b s0 u0 k (law12_alike.l3 s0 u0 k kI)
def law12_alike.m (k:Nat) (s0:HSt) (u0:HSt) (Lc0:List Int) (Lg0:List Int):Option (Bool×HSt×HSt):=bind1 (help_Plain.m k (hObjsF s0.a) (hObjsF u0.a)) fun y54=>(if (!(y54)) then some (false,s0,u0) else law12_alike.l3 s0 u0 k k 0)
set_option maxRecDepth 100000 in
set_option maxHeartbeats 40000000 in
theorem law12_alike.ok {w0 w:World} {F0:List Nat} {ps:List Piece} {k:Nat} {bb0 b0 ab0 bw0 abw0 sb0 g0 cb0:Nat} {vc0 vg0:Value} {s0 u0:HSt} {Lc0 Lg0:List Int} {r0:Bool} {t0:HSt} {t1:HSt} (hS:St w0 F0 (BlkP bb0 95 #[nP b0 0,nP bw0 0,vc0,vg0]::HeapP b0 ab0 s0::RHeapP bw0 abw0 sb0 g0 cb0 u0::RowP (vc0) Lc0::RowP (vg0) Lg0::ps) w) (hm:law12_alike.m k s0 u0 Lc0 Lg0=some (r0,t0,t1)) :
    Calls Tryz.prog 63 #[nP bb0 0] w fun e w'=>e=.returned (.bool r0)∧St w0 F0 (BlkP bb0 95 #[nP b0 0,nP bw0 0,vc0,vg0]::HeapP b0 ab0 t0::RHeapP bw0 abw0 sb0 g0 cb0 t1::RowP (vc0) Lc0::RowP (vg0) Lg0::ps) w':=by
 refine ev_enterL 104 [nP bb0 0] Tryz.func63 rfl rfl (by simp) ?_
 intro a hF
 have hF0:Fr 104 a [(0,nP bb0 0)]:=hF; clear hF
 unfold law12_alike.m at hm
 obtain ⟨hl4,p1,c2,rfl,hp3⟩:=St.shape hS 3 rfl
 obtain ⟨hl8,p5,c6,rfl,hp7⟩:=St.shape hS 4 rfl
 refine wp_seq (wp_region_lit ?_)
 refine ev_runK 1 hF0 [0] (l':=[(0,nP bb0 0)]) (w':=w) (by kernel_rfl) ?_
 intro a10 hF9; clear hF0
 refine wpList_nil (thenN (wp_seq (wp_region_lit ?_)))
 refine ev_runs 3 hF9 (l':=[(12,nP bb0 1),(11,nP bb0 0),(10,nP bb0 0),(0,nP bb0 0)]) (w':=w) (by kernel_rfl) ?_
 intro a12 hF11; clear hF9
 refine ev_one (nP bw0 0) w hF11 (by kernel_rfl) rfl (by kernel_rfl) (run_loadV rfl rfl (run_loadS rfl rfl (hS.cell 0 rfl 1 rfl))) (l':=[(13,nP bw0 0),(12,nP bb0 1),(11,nP bb0 0),(10,nP bb0 0),(0,nP bb0 0)]) (by kernel_rfl) ?_
 intro a14 hF13; clear hF11
 refine ev_runs 2 hF13 (l':=[(15,nP bw0 0),(14,nP bw0 0),(13,nP bw0 0),(12,nP bb0 1),(11,nP bb0 0),(10,nP bb0 0),(0,nP bb0 0)]) (w':=w) (by kernel_rfl) ?_
 intro a16 hF15; clear hF13
 refine ev_one (nP abw0 0) w hF15 (by kernel_rfl) rfl (by kernel_rfl) (run_loadV rfl rfl (run_loadS rfl rfl (St.rhsee (k:=2) hS rfl).1)) (l':=[(16,nP abw0 0),(15,nP bw0 0),(14,nP bw0 0),(13,nP bw0 0),(12,nP bb0 1),(11,nP bb0 0),(10,nP bb0 0),(0,nP bb0 0)]) (by kernel_rfl) ?_
 intro a18 hF17; clear hF15
 have hS19:=hS.pick2
 refine ev_call 103 #[nP abw0 0] hF17 rfl rfl (by kernel_rfl) rfl (by kernel_rfl) (fun w=>by kernel_rfl) ?_
 refine (q_Objects hS19).mono ?_
 rintro _ w20 ⟨z24,rfl,hS22⟩ a21 hF23; clear hF17 hS19
 obtain ⟨hl29,p26,c27,rfl,hp28⟩:=St.shape hS22 1 rfl
 refine ev_runK 1 hF23 [0,3] (l':=[(3,.slice p26 (hObjsF u0.a).length c27),(0,nP bb0 0)]) (w':=w20) (by kernel_rfl) ?_
 intro a31 hF30; clear hF23
 refine wpList_nil (thenN (wp_seq (wp_seq (wp_region_lit ?_))))
 refine ev_runs 3 hF30 (l':=[(20,nP bb0 0),(19,nP bb0 0),(18,nP bb0 0),(3,.slice p26 (hObjsF u0.a).length c27),(0,nP bb0 0)]) (w':=w20) (by kernel_rfl) ?_
 intro a33 hF32; clear hF30
 refine ev_one (nP b0 0) w20 hF32 (by kernel_rfl) rfl (by kernel_rfl) (run_loadV rfl rfl (run_loadS rfl rfl (hS22.cell 2 rfl 0 rfl))) (l':=[(21,nP b0 0),(20,nP bb0 0),(19,nP bb0 0),(18,nP bb0 0),(3,.slice p26 (hObjsF u0.a).length c27),(0,nP bb0 0)]) (by kernel_rfl) ?_
 intro a35 hF34; clear hF32
 have hS36:=hS22.pick3
 clear hS22
 refine ev_call 34 #[nP b0 0] hF34 rfl rfl (by kernel_rfl) rfl (by kernel_rfl) (fun w=>by kernel_rfl) ?_
 refine (p_Arena hS36).mono ?_
 rintro _ w37 ⟨rfl,hS39⟩ a38 hF40; clear hF34 hS36
 refine ev_call 36 #[nP ab0 0] hF40 rfl rfl (by kernel_rfl) rfl (by kernel_rfl) (fun w=>by kernel_rfl) ?_
 refine (p_Objects hS39).mono ?_
 rintro _ w41 ⟨z45,rfl,hS43⟩ a42 hF44; clear hF40 hS39
 obtain ⟨hl50,p47,c48,rfl,hp49⟩:=St.shape hS43 1 rfl
 refine ev_runs 1 hF44 (l':=[(24,.slice p26 (hObjsF u0.a).length c27),(23,.slice p47 (hObjsF s0.a).length c48),(22,nP ab0 0),(21,nP b0 0),(20,nP bb0 0),(19,nP bb0 0),(18,nP bb0 0),(3,.slice p26 (hObjsF u0.a).length c27),(0,nP bb0 0)]) (w':=w41) (by kernel_rfl) ?_
 intro a52 hF51; clear hF44
 have hS53:=hS43.pick3.pick2
 clear hS43
 refine ev_call 51 #[.slice p47 (hObjsF s0.a).length c48,.slice p26 (hObjsF u0.a).length c27] hF51 rfl rfl (by kernel_rfl) rfl (by kernel_rfl) (fun w=>by kernel_rfl) ?_
 obtain ⟨y54,hx55,hm56⟩:=bind1E hm; clear hm
 refine (help_Plain.ok hS53 hx55).mono ?_
 rintro _ w57 ⟨rfl,hS59⟩ a58 hF60; clear hF51 hS53
 refine ev_runK 1 hF60 [0,3,26] (l':=[(26,.bool (!(y54))),(3,.slice p26 (hObjsF u0.a).length c27),(0,nP bb0 0)]) (w':=w57) (by kernel_rfl) ?_
 intro a62 hF61; clear hF60
 refine wpList_nil ?_
 have hS63:=hS59.drop
 clear hS59
 refine thenN ?_
 cases hc64:(!(y54))
 case true =>
  rw [hc64] at hF61
  have hm65:=ifYes hc64 hm56; clear hm56
  refine ev_condT hF61 rfl rfl ?_
  refine wp_seq (wp_region_lit ?_)
  refine ev_runK 1 hF61 [2] (l':=[(2,.bool false)]) (w':=w57) (by kernel_rfl) ?_
  intro a67 hF66; clear hF61
  refine wpList_nil ?_
  have hS68:=hS63.drop
  clear hS63
  refine thenN ?_
  refine wp_ret ?_
  refine thenR ?_
  have hS69:=hS68.pick4.pick4.pick3.pick3.pick4
  clear hS68
  simp only [Option.some.injEq,Prod.mk.injEq] at hm65
  obtain ⟨rfl,rfl,rfl⟩:=hm65
  refine ev_ret hF66 [2] (.bool false) rfl rfl rfl ?_
  exact ⟨rfl,hS69⟩
 rw [hc64] at hF61
 have hm73:=ifNot hc64 hm56; clear hm56
 refine ev_condF hF61 rfl rfl ?_
 refine wp_skip ?_
 have hF74:=hF61.keep [0,3]
 clear hF61
 refine thenN (wp_seq (wp_seq (wp_region_lit ?_)))
 refine ev_runs 1 hF74 (l':=[(4,nI 0),(3,.slice p26 (hObjsF u0.a).length c27),(0,nP bb0 0)]) (w':=w57) (by kernel_rfl) ?_
 intro a76 hF75; clear hF74
 refine wpList_nil (thenN ?_)
 refine wp_block ?_
 refine wp_loop_ghost (fun kI aI wI=>∃ (x77:Int),Fr 104 aI [(4,nI x77),(3,.slice p26 (hObjsF u0.a).length c27),(0,nP bb0 0)]∧St w0 F0 (RowP (.slice p26 (hObjsF u0.a).length c27) (hObjsF u0.a)::HeapP b0 ab0 s0::RHeapP bw0 abw0 sb0 g0 cb0 u0::BlkP bb0 95 #[nP b0 0,nP bw0 0,.slice p1 Lc0.length c2,.slice p5 Lg0.length c6]::RowP (.slice p1 Lc0.length c2) Lc0::RowP (.slice p5 Lg0.length c6) Lg0::ps) wI∧law12_alike.l3 s0 u0 k kI x77=some (r0,t0,t1)) k ⟨0,hF75,hS63,hm73⟩ ?_
 rintro k78 a79 w80 ⟨x77,hF81,hS82,hm83⟩
 clear hF75 hS63 hm73
 rcases k78 with _ | k78
 · cases hm83
 have hm84:law12_alike.l3b s0 u0 k (law12_alike.l3 s0 u0 k k78) x77=some (r0,t0,t1):=hm83
 clear hm83
 unfold law12_alike.l3b at hm84
 refine wp_seq (wp_seq (wp_region_lit ?_))
 refine ev_runK 4 hF81 [0,3,4,30] (l':=[(30,.bool (decide (x77<((hObjsF u0.a).length:Int)))),(4,nI x77),(3,.slice p26 (hObjsF u0.a).length c27),(0,nP bb0 0)]) (w':=w80) (by kernel_rfl) ?_
 intro a86 hF85; clear hF81
 refine wpList_nil (thenN ?_)
 cases hc87:(decide (x77<((hObjsF u0.a).length:Int)))
 case true =>
  rw [hc87] at hF85
  have hm88:=ifYes hc87 hm84; clear hm84
  refine ev_condT hF85 rfl rfl ?_
  refine wp_skip ?_
  have hF89:=hF85.keep [0,3,4]
  clear hF85
  refine thenN (wp_seq ?_)
  refine wp_block ?_
  refine wp_seq (wp_seq ?_)
  obtain ⟨hc90,hm91⟩:=ifTE hm88; clear hm88
  obtain ⟨g92,rfl⟩:=hp28.resolve_left (by have:=inR_spec hc90; omega)
  obtain ⟨hc93,hm94⟩:=ifTE hm91; clear hm91
  have hS95:=hS82.pick2.pick1.pick3
  clear hS82
  have hS96:=hS95.drew; clear hS95
  refine any_start (fun wS=>∃ qs,St w0 F0 (BlkP bb0 95 #[nP b0 0,nP bw0 0,.slice p1 Lc0.length c2,.slice p5 Lg0.length c6]::RowP (.slice (some ⟨g92,0,none⟩) (hObjsF u0.a).length c27) (hObjsF u0.a)::RHeapP bw0 abw0 sb0 g0 cb0 u0::qs) wS) 23 #[false,false,false,false,false,false,false,false,false,false,false,false,false,false,false,false,false,false,false,false,false,false,false] (by kernel_rfl) (by kernel_rfl) (by kernel_rfl) ?_
  refine any_many 21 [(0,some (nP bb0 0)),(1,some (nP bb0 0)),(2,some (nP bb0 0)),(3,some (nP b0 0)),(4,some (.slice (some ⟨g92,0,none⟩) (hObjsF u0.a).length c27)),(5,some (nI x77)),(6,some (nP g92 (x77.toNat))),(7,some (nI (atI (hObjsF u0.a) x77))),(9,some (nP bb0 0)),(10,some (nP bb0 0)),(11,some (nP bb0 1)),(12,some (nP bw0 0)),(13,some (nP bw0 0)),(14,some (nP bw0 1)),(15,some (.slice (some ⟨cb0,0,none⟩) (u0.a.c.length) (u0.a.c.length))),(16,some (.slice (some ⟨g92,0,none⟩) (hObjsF u0.a).length c27)),(17,some (nI x77)),(18,some (nP g92 (x77.toNat))),(19,some (nI (atI (hObjsF u0.a) x77))),(20,some (nP cb0 ((atI (hObjsF u0.a) x77).toNat))),(21,some (nI (u0.col (atI (hObjsF u0.a) x77))))] [0,3,4,36,40,41,54,55] #[true,true,true,true,true,true,true,true,false,true,true,true,true,true,true,true,true,true,true,true,true,true,false] (by rfl) hF89 (by kernel_rfl) (by kernel_rfl) (by exact ⟨fun wS hw=>by kernel_rfl,fun wS hw=>by kernel_rfl,fun wS hw=>by kernel_rfl,fun wS hw=>hw.elim fun qs hw=>run_loadV rfl rfl (run_loadS rfl rfl (hw.cell 0 rfl 0 rfl)),fun wS hw=>by kernel_rfl,fun wS hw=>by kernel_rfl,fun wS hw=>run_idx rfl rfl rfl rfl rfl (inR_spec hc90).1 (inR_spec hc90).2 _,fun wS hw=>run_load1 rfl rfl rfl (hw.elim fun qs hw=>hw.atI 1 rfl hc90),fun wS hw=>by kernel_rfl,fun wS hw=>by kernel_rfl,fun wS hw=>by kernel_rfl,fun wS hw=>hw.elim fun qs hw=>run_loadV rfl rfl (run_loadS rfl rfl (hw.cell 0 rfl 1 rfl)),fun wS hw=>by kernel_rfl,fun wS hw=>by kernel_rfl,fun wS hw=>hw.elim fun qs hw=>run_loadV rfl rfl (run_loadS rfl rfl (St.rhsee (k:=2) hw rfl).2.1),fun wS hw=>by kernel_rfl,fun wS hw=>by kernel_rfl,fun wS hw=>run_idx rfl rfl rfl rfl rfl (inR_spec hc90).1 (inR_spec hc90).2 _,fun wS hw=>run_load1 rfl rfl rfl (hw.elim fun qs hw=>hw.atI 1 rfl hc90),fun wS hw=>run_idx rfl rfl rfl rfl rfl (inR_spec hc93).1 (inR_spec hc93).2 _,fun wS hw=>run_load1 rfl rfl rfl (hw.elim fun qs hw=>St.rhcol (k:=2) hw rfl hc93),trivial⟩) (fun _ _ _ _ _ h=>h) ⟨_,hS96⟩ (l':=[(54,nI (u0.col (atI (hObjsF u0.a) x77))),(40,nI (atI (hObjsF u0.a) x77)),(36,nP b0 0),(4,nI x77),(3,.slice (some ⟨g92,0,none⟩) (hObjsF u0.a).length c27),(0,nP bb0 0)]) (by kernel_rfl) ?_
  intro a98 hF97; clear hF89
  have hS99:=hS96.pick3
  clear hS96
  refine any_call 8 #[true,true,true,true,true,true,true,true,true,true,true,true,true,true,true,true,true,true,true,true,true,true,false] 41 #[nP b0 0,nI (atI (hObjsF u0.a) x77)] hF97 rfl (by kernel_rfl) rfl rfl (by kernel_rfl) rfl (by kernel_rfl) (fun w=>by kernel_rfl) (by kernel_rfl) ?_
  obtain ⟨x100,hx101,hm102⟩:=bind1E hm94; clear hm94
  refine (p_Colour hS99 hx101).mono ?_
  rintro _ w103 ⟨rfl,hS105⟩; clear hS99
  refine ⟨⟨_,hS105.pick3.pick3.pick3⟩,?_⟩
  intro a104 hF106; clear hF97
  refine any_many 1 [(22,some (.bool (x100 != (u0.col (atI (hObjsF u0.a) x77)))))] [0,3,4,55] #[true,true,true,true,true,true,true,true,true,true,true,true,true,true,true,true,true,true,true,true,true,true,true] (by rfl) hF106 (by kernel_rfl) (by kernel_rfl) (by exact ⟨fun wS hw=>by kernel_rfl,trivial⟩) (fun _ _ _ _ _ h=>h) ⟨_,hS105.pick3.pick3.pick3⟩ (l':=[(55,.bool (x100 != (u0.col (atI (hObjsF u0.a) x77)))),(4,nI x77),(3,.slice (some ⟨g92,0,none⟩) (hObjsF u0.a).length c27),(0,nP bb0 0)]) (by kernel_rfl) ?_
  intro a108 hF107; clear hF106
  refine any_done (by kernel_rfl) ?_
  refine thenN ?_
  cases hc109:(x100 != (u0.col (atI (hObjsF u0.a) x77)))
  case true =>
   rw [hc109] at hF107
   have hm110:=ifYes hc109 hm102; clear hm102
   refine ev_condT hF107 rfl rfl ?_
   refine wp_seq (wp_region_lit ?_)
   refine ev_runK 1 hF107 [2] (l':=[(2,.bool false)]) (w':=w103) (by kernel_rfl) ?_
   intro a112 hF111; clear hF107
   refine wpList_nil ?_
   have hS113:=hS105.pick2.drop
   clear hS105
   refine thenN ?_
   refine wp_ret ?_
   refine thenR ?_
   refine blockR ?_
   refine thenR (thenR ?_)
   refine blockR ?_
   refine thenR ?_
   have hS114:=hS113.pick4.pick4.pick4.pick3.pick4
   clear hS113
   simp only [Option.some.injEq,Prod.mk.injEq] at hm110
   obtain ⟨rfl,rfl,rfl⟩:=hm110
   refine ev_ret hF111 [2] (.bool false) rfl rfl rfl ?_
   exact ⟨rfl,hS114⟩
  rw [hc109] at hF107
  have hm118:=ifNot hc109 hm102; clear hm102
  refine ev_condF hF107 rfl rfl ?_
  refine wp_skip ?_
  have hF119:=hF107.keep [0,3,4]
  clear hF107
  refine thenN (wp_seq (wp_region_lit ?_))
  refine ev_runs 1 hF119 (l':=[(5,nI 0),(4,nI x77),(3,.slice (some ⟨g92,0,none⟩) (hObjsF u0.a).length c27),(0,nP bb0 0)]) (w':=w103) (by kernel_rfl) ?_
  intro a121 hF120; clear hF119
  refine wpList_nil (thenN ?_)
  refine wp_block ?_
  refine wp_loop_ghost (fun kI aI wI=>∃ (x122:Int),Fr 104 aI [(5,nI x122),(4,nI x77),(3,.slice (some ⟨g92,0,none⟩) (hObjsF u0.a).length c27),(0,nP bb0 0)]∧St w0 F0 (HeapP b0 ab0 s0::BlkP bb0 95 #[nP b0 0,nP bw0 0,.slice p1 Lc0.length c2,.slice p5 Lg0.length c6]::RowP (.slice (some ⟨g92,0,none⟩) (hObjsF u0.a).length c27) (hObjsF u0.a)::RHeapP bw0 abw0 sb0 g0 cb0 u0::RowP (.slice p1 Lc0.length c2) Lc0::RowP (.slice p5 Lg0.length c6) Lg0::ps) wI∧law12_alike.l4 s0 u0 x77 (law12_alike.l3 s0 u0 k k78) kI x122=some (r0,t0,t1)) k ⟨0,hF120,hS105,hm118⟩ ?_
  rintro k123 a124 w125 ⟨x122,hF126,hS127,hm128⟩
  clear hF120 hS105 hm118
  rcases k123 with _ | k123
  · cases hm128
  have hm129:law12_alike.l4b s0 u0 x77 (law12_alike.l3 s0 u0 k k78) (law12_alike.l4 s0 u0 x77 (law12_alike.l3 s0 u0 k k78) k123) x122=some (r0,t0,t1):=hm128
  clear hm128
  unfold law12_alike.l4b at hm129
  refine wp_seq (wp_seq ?_)
  obtain ⟨hc130,hm131⟩:=ifTE hm129; clear hm129
  have hS132:=hS127.pick2.pick2.pick3
  clear hS127
  have hS133:=hS132.drew; clear hS132
  refine any_start (fun wS=>∃ qs,St w0 F0 (RHeapXP bw0 abw0 sb0 g0 cb0::BlkP bb0 95 #[nP b0 0,nP bw0 0,.slice p1 Lc0.length c2,.slice p5 Lg0.length c6]::RowP (.slice (some ⟨g92,0,none⟩) (hObjsF u0.a).length c27) (hObjsF u0.a)::qs) wS) 14 #[false,false,false,false,false,false,false,false,false,false,false,false,false,false] (by kernel_rfl) (by kernel_rfl) (by kernel_rfl) ?_
  refine any_many 12 [(0,some (nI x122)),(1,some (nP bb0 0)),(2,some (nP bb0 0)),(3,some (nP bb0 1)),(4,some (nP bw0 0)),(5,some (nP bw0 0)),(6,some (nP bw0 0)),(7,some (nP abw0 0)),(8,some (.slice (some ⟨g92,0,none⟩) (hObjsF u0.a).length c27)),(9,some (nI x77)),(10,some (nP g92 (x77.toNat))),(11,some (nI (atI (hObjsF u0.a) x77)))] [0,3,4,5,56,63,67,68,69] #[true,true,true,true,true,true,true,true,true,true,true,true,false,false] (by rfl) hF126 (by kernel_rfl) (by kernel_rfl) (by exact ⟨fun wS hw=>by kernel_rfl,fun wS hw=>by kernel_rfl,fun wS hw=>by kernel_rfl,fun wS hw=>by kernel_rfl,fun wS hw=>hw.elim fun qs hw=>run_loadV rfl rfl (run_loadS rfl rfl (hw.cell 1 rfl 1 rfl)),fun wS hw=>by kernel_rfl,fun wS hw=>by kernel_rfl,fun wS hw=>hw.elim fun qs hw=>run_loadV rfl rfl (run_loadS rfl rfl (St.rhA (k:=0) hw rfl)),fun wS hw=>by kernel_rfl,fun wS hw=>by kernel_rfl,fun wS hw=>run_idx rfl rfl rfl rfl rfl (inR_spec hc130).1 (inR_spec hc130).2 _,fun wS hw=>run_load1 rfl rfl rfl (hw.elim fun qs hw=>hw.atI 2 rfl hc130),trivial⟩) (fun _ _ _ _ _ h=>h) ⟨_,St.toRX (hS133)⟩ (l':=[(67,nI (atI (hObjsF u0.a) x77)),(63,nP abw0 0),(56,nI x122),(5,nI x122),(4,nI x77),(3,.slice (some ⟨g92,0,none⟩) (hObjsF u0.a).length c27),(0,nP bb0 0)]) (by kernel_rfl) ?_
  intro a135 hF134; clear hF126
  refine any_call 12 #[true,true,true,true,true,true,true,true,true,true,true,true,true,false] 116 #[nP abw0 0,nI (atI (hObjsF u0.a) x77)] hF134 rfl (by kernel_rfl) rfl rfl (by kernel_rfl) rfl (by kernel_rfl) (fun w=>by kernel_rfl) (by kernel_rfl) ?_
  refine (q_Len hS133).mono ?_
  rintro _ w136 ⟨rfl,hS138⟩; clear hS133
  refine ⟨⟨_,St.toRX (hS138)⟩,?_⟩
  intro a137 hF139; clear hF134
  refine any_many 1 [(13,some (.bool (decide (x122<(aLen u0.a.c (atI (hObjsF u0.a) x77))))))] [0,3,4,5,69] #[true,true,true,true,true,true,true,true,true,true,true,true,true,true] (by rfl) hF139 (by kernel_rfl) (by kernel_rfl) (by exact ⟨fun wS hw=>by kernel_rfl,trivial⟩) (fun _ _ _ _ _ h=>h) ⟨_,St.toRX (hS138)⟩ (l':=[(69,.bool (decide (x122<(aLen u0.a.c (atI (hObjsF u0.a) x77))))),(5,nI x122),(4,nI x77),(3,.slice (some ⟨g92,0,none⟩) (hObjsF u0.a).length c27),(0,nP bb0 0)]) (by kernel_rfl) ?_
  intro a141 hF140; clear hF139
  refine any_done (by kernel_rfl) ?_
  refine thenN ?_
  cases hc142:(decide (x122<(aLen u0.a.c (atI (hObjsF u0.a) x77))))
  case true =>
   rw [hc142] at hF140
   have hm143:=ifYes hc142 hm131; clear hm131
   refine ev_condT hF140 rfl rfl ?_
   refine wp_skip ?_
   have hF144:=hF140.keep [0,3,4,5]
   clear hF140
   refine thenN (wp_seq ?_)
   refine wp_block ?_
   refine wp_seq ?_
   have hS145:=hS138.pick2.pick2
   clear hS138
   have hS146:=hS145.drew; clear hS145
   refine any_start (fun wS=>∃ qs,St w0 F0 (BlkP bb0 95 #[nP b0 0,nP bw0 0,.slice p1 Lc0.length c2,.slice p5 Lg0.length c6]::RowP (.slice (some ⟨g92,0,none⟩) (hObjsF u0.a).length c27) (hObjsF u0.a)::qs) wS) 15 #[false,false,false,false,false,false,false,false,false,false,false,false,false,false,false] (by kernel_rfl) (by kernel_rfl) (by kernel_rfl) ?_
   refine any_many 9 [(0,some (nP bb0 0)),(1,some (nP bb0 0)),(2,some (nP bb0 0)),(3,some (nP b0 0)),(4,some (.slice (some ⟨g92,0,none⟩) (hObjsF u0.a).length c27)),(5,some (nI x77)),(6,some (nP g92 (x77.toNat))),(7,some (nI (atI (hObjsF u0.a) x77))),(8,some (nI x122))] [0,3,4,5,6,72,76,80,81,82,83,84] #[true,true,true,true,true,true,true,true,true,false,false,false,false,false,false] (by rfl) hF144 (by kernel_rfl) (by kernel_rfl) (by exact ⟨fun wS hw=>by kernel_rfl,fun wS hw=>by kernel_rfl,fun wS hw=>by kernel_rfl,fun wS hw=>hw.elim fun qs hw=>run_loadV rfl rfl (run_loadS rfl rfl (hw.cell 0 rfl 0 rfl)),fun wS hw=>by kernel_rfl,fun wS hw=>by kernel_rfl,fun wS hw=>run_idx rfl rfl rfl rfl rfl (inR_spec hc130).1 (inR_spec hc130).2 _,fun wS hw=>run_load1 rfl rfl rfl (hw.elim fun qs hw=>hw.atI 1 rfl hc130),fun wS hw=>by kernel_rfl,trivial⟩) (fun _ _ _ _ _ h=>h) ⟨_,hS146⟩ (l':=[(81,nI x122),(80,nI (atI (hObjsF u0.a) x77)),(76,nP b0 0),(5,nI x122),(4,nI x77),(3,.slice (some ⟨g92,0,none⟩) (hObjsF u0.a).length c27),(0,nP bb0 0)]) (by kernel_rfl) ?_
   intro a148 hF147; clear hF144
   have hS149:=hS146.pick3
   clear hS146
   refine any_call 9 #[true,true,true,true,true,true,true,true,true,true,false,false,false,false,false] 39 #[nP b0 0,nI (atI (hObjsF u0.a) x77),nI x122] hF147 rfl (by kernel_rfl) rfl rfl (by kernel_rfl) rfl (by kernel_rfl) (fun w=>by kernel_rfl) (by kernel_rfl) ?_
   obtain ⟨x150,x151,hx152,hm153⟩:=bind2E hm143; clear hm143
   refine (p_Load hS149 hx152).mono ?_
   rintro _ w154 ⟨rfl,hS156⟩; clear hS149
   refine ⟨⟨_,hS156.pick2.pick2⟩,?_⟩
   intro a155 hF157; clear hF147
   refine any_many 5 [(10,some (.tuple #[nI x150,nI x151])),(11,some (nI x150)),(12,some (nI x151)),(13,some (nI x150)),(14,some (nI x151))] [0,3,4,5,6] #[true,true,true,true,true,true,true,true,true,true,true,true,true,true,true] (by rfl) hF157 (by kernel_rfl) (by kernel_rfl) (by exact ⟨fun wS hw=>by kernel_rfl,fun wS hw=>by kernel_rfl,fun wS hw=>by kernel_rfl,fun wS hw=>by kernel_rfl,fun wS hw=>by kernel_rfl,trivial⟩) (fun _ _ _ _ _ h=>h) ⟨_,hS156.pick2.pick2⟩ (l':=[(6,nI x150),(5,nI x122),(4,nI x77),(3,.slice (some ⟨g92,0,none⟩) (hObjsF u0.a).length c27),(0,nP bb0 0)]) (by kernel_rfl) ?_
   intro a159 hF158; clear hF157
   refine any_done (by kernel_rfl) ?_
   refine thenN (wp_seq ?_)
   have hS160:=hS156.pick2.pick2.pick3
   clear hS156
   have hS161:=hS160.drew; clear hS160
   refine any_start (fun wS=>∃ qs,St w0 F0 (RHeapXP bw0 abw0 sb0 g0 cb0::BlkP bb0 95 #[nP b0 0,nP bw0 0,.slice p1 Lc0.length c2,.slice p5 Lg0.length c6]::RowP (.slice (some ⟨g92,0,none⟩) (hObjsF u0.a).length c27) (hObjsF u0.a)::qs) wS) 18 #[false,false,false,false,false,false,false,false,false,false,false,false,false,false,false,false,false,false] (by kernel_rfl) (by kernel_rfl) (by kernel_rfl) ?_
   refine any_many 12 [(0,some (nP bb0 0)),(1,some (nP bb0 0)),(2,some (nP bb0 1)),(3,some (nP bw0 0)),(4,some (nP bw0 0)),(5,some (nP bw0 0)),(6,some (nP abw0 0)),(7,some (.slice (some ⟨g92,0,none⟩) (hObjsF u0.a).length c27)),(8,some (nI x77)),(9,some (nP g92 (x77.toNat))),(10,some (nI (atI (hObjsF u0.a) x77))),(11,some (nI x122))] [0,3,4,5,6,8,85,92,96,97,98,99,100] #[true,true,true,true,true,true,true,true,true,true,true,true,false,false,false,false,false,false] (by rfl) hF158 (by kernel_rfl) (by kernel_rfl) (by exact ⟨fun wS hw=>by kernel_rfl,fun wS hw=>by kernel_rfl,fun wS hw=>by kernel_rfl,fun wS hw=>hw.elim fun qs hw=>run_loadV rfl rfl (run_loadS rfl rfl (hw.cell 1 rfl 1 rfl)),fun wS hw=>by kernel_rfl,fun wS hw=>by kernel_rfl,fun wS hw=>hw.elim fun qs hw=>run_loadV rfl rfl (run_loadS rfl rfl (St.rhA (k:=0) hw rfl)),fun wS hw=>by kernel_rfl,fun wS hw=>by kernel_rfl,fun wS hw=>run_idx rfl rfl rfl rfl rfl (inR_spec hc130).1 (inR_spec hc130).2 _,fun wS hw=>run_load1 rfl rfl rfl (hw.elim fun qs hw=>hw.atI 2 rfl hc130),fun wS hw=>by kernel_rfl,trivial⟩) (fun _ _ _ _ _ h=>h) ⟨_,St.toRX (hS161)⟩ (l':=[(97,nI x122),(96,nI (atI (hObjsF u0.a) x77)),(92,nP abw0 0),(6,nI x150),(5,nI x122),(4,nI x77),(3,.slice (some ⟨g92,0,none⟩) (hObjsF u0.a).length c27),(0,nP bb0 0)]) (by kernel_rfl) ?_
   intro a163 hF162; clear hF158
   refine any_call 12 #[true,true,true,true,true,true,true,true,true,true,true,true,true,false,false,false,false,false] 117 #[nP abw0 0,nI (atI (hObjsF u0.a) x77),nI x122] hF162 rfl (by kernel_rfl) rfl rfl (by kernel_rfl) rfl (by kernel_rfl) (fun w=>by kernel_rfl) (by kernel_rfl) ?_
   obtain ⟨x164,x165,hx166,hm167⟩:=bind2E hm153; clear hm153
   refine (q_Load hS161 hx166).mono ?_
   rintro _ w168 ⟨rfl,hS170⟩; clear hS161
   refine ⟨⟨_,St.toRX (hS170)⟩,?_⟩
   intro a169 hF171; clear hF162
   refine any_many 5 [(13,some (.tuple #[nI x164,nI x165])),(14,some (nI x164)),(15,some (nI x165)),(16,some (nI x164)),(17,some (nI x165))] [0,3,4,5,6,8] #[true,true,true,true,true,true,true,true,true,true,true,true,true,true,true,true,true,true] (by rfl) hF171 (by kernel_rfl) (by kernel_rfl) (by exact ⟨fun wS hw=>by kernel_rfl,fun wS hw=>by kernel_rfl,fun wS hw=>by kernel_rfl,fun wS hw=>by kernel_rfl,fun wS hw=>by kernel_rfl,trivial⟩) (fun _ _ _ _ _ h=>h) ⟨_,St.toRX (hS170)⟩ (l':=[(8,nI x164),(6,nI x150),(5,nI x122),(4,nI x77),(3,.slice (some ⟨g92,0,none⟩) (hObjsF u0.a).length c27),(0,nP bb0 0)]) (by kernel_rfl) ?_
   intro a173 hF172; clear hF171
   refine any_done (by kernel_rfl) ?_
   refine thenN (wp_seq (wp_region_lit ?_))
   refine ev_runK 3 hF172 [0,3,4,5,103] (l':=[(103,.bool (x150 != x164)),(5,nI x122),(4,nI x77),(3,.slice (some ⟨g92,0,none⟩) (hObjsF u0.a).length c27),(0,nP bb0 0)]) (w':=w168) (by kernel_rfl) ?_
   intro a175 hF174; clear hF172
   refine wpList_nil (thenN ?_)
   cases hc176:(x150 != x164)
   case true =>
    rw [hc176] at hF174
    have hm177:=ifYes hc176 hm167; clear hm167
    refine ev_condT hF174 rfl rfl ?_
    refine wp_seq (wp_region_lit ?_)
    refine ev_runK 1 hF174 [2] (l':=[(2,.bool false)]) (w':=w168) (by kernel_rfl) ?_
    intro a179 hF178; clear hF174
    refine wpList_nil ?_
    have hS180:=hS170.pick2.drop
    clear hS170
    refine thenN ?_
    refine wp_ret ?_
    refine blockR ?_
    refine thenR (thenR ?_)
    refine blockR ?_
    refine blockR ?_
    refine thenR (thenR ?_)
    refine blockR ?_
    refine thenR ?_
    have hS181:=hS180.pick4.pick4.pick2.pick4.pick4
    clear hS180
    simp only [Option.some.injEq,Prod.mk.injEq] at hm177
    obtain ⟨rfl,rfl,rfl⟩:=hm177
    refine ev_ret hF178 [2] (.bool false) rfl rfl rfl ?_
    exact ⟨rfl,hS181⟩
   rw [hc176] at hF174
   have hm185:=ifNot hc176 hm167; clear hm167
   refine ev_condF hF174 rfl rfl ?_
   refine wp_skip ?_
   have hF186:=hF174.keep [0,3,4,5]
   clear hF174
   refine blockN ?_
   refine thenN (wp_region_lit ?_)
   refine ev_runK 3 hF186 [0,3,4,5] (l':=[(5,nI (IntKind.i64.wrap (x122+1))),(4,nI x77),(3,.slice (some ⟨g92,0,none⟩) (hObjsF u0.a).length c27),(0,nP bb0 0)]) (w':=w168) (by kernel_rfl) ?_
   intro a188 hF187; clear hF186
   refine wpList_nil ?_
   have hS189:=hS170.pick5.pick5.pick2.pick4.pick4.pick5
   clear hS170
   exact thenN ⟨k123,Nat.lt_succ_self _,IntKind.i64.wrap (x122+1),hF187,hS189,hm185⟩
  rw [hc142] at hF140
  have hm190:=ifNot hc142 hm131; clear hm131
  refine ev_condF hF140 rfl rfl ?_
  refine wp_exit ?_
  refine thenE ?_
  refine thenE ?_
  refine blockE ?_
  refine blockN ?_
  refine thenN (wp_region_lit ?_)
  refine ev_runK 3 hF140 [0,3,4] (l':=[(4,nI (IntKind.i64.wrap (x77+1))),(3,.slice (some ⟨g92,0,none⟩) (hObjsF u0.a).length c27),(0,nP bb0 0)]) (w':=w136) (by kernel_rfl) ?_
  intro a192 hF191; clear hF140
  refine wpList_nil ?_
  have hS193:=hS138.pick5.pick5.pick3.pick3.pick5.pick5
  clear hS138
  exact thenN ⟨k78,Nat.lt_succ_self _,IntKind.i64.wrap (x77+1),hF191,hS193,hm190⟩
 rw [hc87] at hF85
 have hm194:=ifNot hc87 hm84; clear hm84
 refine ev_condF hF85 rfl rfl ?_
 refine wp_exit ?_
 refine thenE ?_
 refine thenE ?_
 refine blockE ?_
 refine thenN (wp_seq (wp_region_lit ?_))
 refine ev_runK 1 hF85 [2] (l':=[(2,.bool true)]) (w':=w80) (by kernel_rfl) ?_
 intro a196 hF195; clear hF85
 refine wpList_nil ?_
 have hS197:=hS82.drop
 clear hS82
 refine thenN ?_
 refine wp_ret ?_
 have hS198:=hS197.pick4.pick4.pick3.pick3.pick4
 clear hS197
 simp only [Option.some.injEq,Prod.mk.injEq] at hm194
 obtain ⟨rfl,rfl,rfl⟩:=hm194
 refine ev_ret hF195 [2] (.bool true) rfl rfl rfl ?_
 exact ⟨rfl,hS198⟩
def law12_madeK.j7 (K0:List Int) (k:Nat) (L52:List Int) (x56:Int) (rec59:List Int→HSt→HSt→Int→Option (HSt×HSt×List Int×List Int)) (x101:Int) (s118:HSt) (s119:HSt) (x120:Int):Option (HSt×HSt×List Int×List Int):=bind2 (pPutChan x101 (⟨IntKind.i64.wrap (Int.tmod (IntKind.u64.wrap (atI K0 x56)) 4),0,0,0,x120,-1,-1,-1,-1⟩:Ch) s118) fun x133 s134=>bind2 (ref11_PutChan.m k s119 x101 (⟨IntKind.i64.wrap (Int.tmod (IntKind.u64.wrap (atI K0 x56)) 4),0,0,0,x120,-1,-1,-1,-1⟩:Ch)) fun x142 s143=>(if (x133 != x142) then none else bind1 (pushM L52 x101) fun L167=>rec59 L167 s134 s143 (IntKind.i64.wrap (x56+1)))
def law12_madeK.l8b (i1:Int) (k:Nat) (L52:List Int) (rec223:List Int→HSt→HSt→Int→Option (HSt×HSt×List Int×List Int)) (L216:List Int) (s218:HSt) (s219:HSt) (x220:Int):Option (HSt×HSt×List Int×List Int):=(if (decide (x220<(IntKind.i64.wrap (1+(IntKind.i64.wrap (Int.tmod (IntKind.u64.wrap i1) 6)))))) then bind3 (law12_alloc.m k s218 s219 L52 L216 4 10) fun x240 s241 s242=>bind2 (pPutGor x240 (⟨x220,0,0,0,0,0,0,0,0,-1⟩:Gr) s241) fun x264 s265=>bind2 (ref11_PutGor.m k s242 x240 (⟨x220,0,0,0,0,0,0,0,0,-1⟩:Gr)) fun x273 s274=>(if (x264 != x273) then none else bind1 (pushM L216 x240) fun L298=>rec223 L298 s265 s274 (IntKind.i64.wrap (x220+1))) else some ((s218,s219,L52,L216)))
def law12_madeK.l8 (i1:Int) (k:Nat) (L52:List Int):Nat→List Int→HSt→HSt→Int→Option (HSt×HSt×List Int×List Int)
  | 0=>fun _ _ _ _=>none
  | kI+1=>law12_madeK.l8b i1 k L52 (law12_madeK.l8 i1 k L52 kI)
def law12_madeK.j6 (K0:List Int) (i1:Int) (k:Nat) (L52:List Int) (s54:HSt) (s55:HSt) (x56:Int) (rec59:List Int→HSt→HSt→Int→Option (HSt×HSt×List Int×List Int)) (y68:Bool):Option (HSt×HSt×List Int×List Int):=(if (y68) then (if (inR x56 K0.length) then bind3 (law12_alloc.m k s54 s55 L52 [] 1 9) fun x101 s102 s103=>(if (decide ((IntKind.i64.wrap (Int.tmod (IntKind.u64.wrap (atI K0 x56)) 4)) > 0)) then bind3 (law12_alloc.m k s102 s103 L52 [] 2 (IntKind.i64.wrap (Int.tmod (IntKind.u64.wrap (atI K0 x56)) 4))) fun x193 s194 s195=>law12_madeK.j7 K0 k L52 x56 rec59 x101 s194 s195 x193 else law12_madeK.j7 K0 k L52 x56 rec59 x101 s102 s103 (-1)) else none) else law12_madeK.l8 i1 k L52 k [] s54 s55 0)
def law12_madeK.l5b (K0:List Int) (i1:Int) (k:Nat) (rec59:List Int→HSt→HSt→Int→Option (HSt×HSt×List Int×List Int)) (L52:List Int) (s54:HSt) (s55:HSt) (x56:Int):Option (HSt×HSt×List Int×List Int):=(if (decide (x56<(K0.length:Int))) then law12_madeK.j6 K0 i1 k L52 s54 s55 x56 rec59 (decide (x56<4)) else law12_madeK.j6 K0 i1 k L52 s54 s55 x56 rec59 false)
def law12_madeK.l5 (K0:List Int) (i1:Int) (k:Nat):Nat→List Int→HSt→HSt→Int→Option (HSt×HSt×List Int×List Int)
  | 0=>fun _ _ _ _=>none
  | kI+1=>law12_madeK.l5b K0 i1 k (law12_madeK.l5 K0 i1 k kI)
def law12_madeK.m (k:Nat) (K0:List Int) (i1:Int):Option (HSt×HSt×List Int×List Int):=bind1 (pNew 60) fun s3=>bind1 (prNew 60) fun s15=>law12_madeK.l5 K0 i1 k k [] s3 s15 0
set_option maxRecDepth 100000 in
set_option maxHeartbeats 40000000 in
theorem law12_madeK.ok {w0 w:World} {ps:List Piece} {k:Nat} {pa0:Option Addr} {ca0:Nat} {K0:List Int} (hA0:ArgInts w0 (.slice pa0 K0.length ca0) K0) {i1:Int} {r0:HSt×HSt×List Int×List Int} (hS:St w0 [] (ps) w) (hm:law12_madeK.m k K0 i1=some r0) :
    Calls Tryz.prog 53 #[.slice pa0 K0.length ca0,nI i1] w fun e w'=>∃ bb b ab b2 ab2 sb g cb vc vg,e=.returned (.pointer (some ⟨bb,0,none⟩))∧St w0 [] (BlkP bb 95 #[.pointer (some ⟨b,0,none⟩),.pointer (some ⟨b2,0,none⟩),vc,vg]::HeapP b ab r0.1::RHeapP b2 ab2 sb g cb r0.2.1::RowP vc r0.2.2.1::RowP vg r0.2.2.2::ps) w':=by
 refine ev_enterL 119 [.slice pa0 K0.length ca0,nI i1] Tryz.func53 rfl rfl (by simp) ?_
 intro a hF
 have hF0:Fr 119 a [(0,.slice pa0 K0.length ca0),(1,nI i1)]:=hF; clear hF
 unfold law12_madeK.m at hm
 refine wp_seq (wp_region_lit ?_)
 refine ev_runK 1 hF0 [0,1] (l':=[(0,.slice pa0 K0.length ca0),(1,nI i1)]) (w':=w) (by kernel_rfl) ?_
 intro a2 hF1; clear hF0
 refine wpList_nil (thenN (wp_seq (wp_region_lit ?_)))
 refine ev_call 31 #[nI 60] hF1 rfl rfl (by kernel_rfl) rfl (by kernel_rfl) (fun w=>by kernel_rfl) ?_
 obtain ⟨s3,hx4,hm5⟩:=bind1E hm; clear hm
 refine (p_New hS hx4).mono ?_
 rintro _ w6 ⟨z10,z11,rfl,hS8⟩ a7 hF9; clear hF1 hS
 refine ev_runK 5 hF9 [0,1,5,6] (l':=[(6,nI 0),(5,nP z10 0),(0,.slice pa0 K0.length ca0),(1,nI i1)]) (w':=w6) (by kernel_rfl) ?_
 intro a14 hF13; clear hF9
 refine wpList_nil (thenN (wp_seq (wp_region_lit ?_)))
 refine ev_call 32 #[nI 60] hF13 rfl rfl (by kernel_rfl) rfl (by kernel_rfl) (fun w=>by kernel_rfl) ?_
 obtain ⟨s15,hx16,hm17⟩:=bind1E hm5; clear hm5
 refine (q_New hS8 hx16).mono ?_
 rintro _ w18 ⟨z22,z23,z24,z25,z26,rfl,hS20⟩ a19 hF21; clear hF13 hS8
 refine ev_runK 5 hF21 [0,1,5,6,7] (l':=[(7,nP z22 0),(6,nI 0),(5,nP z10 0),(0,.slice pa0 K0.length ca0),(1,nI i1)]) (w':=w18) (by kernel_rfl) ?_
 intro a29 hF28; clear hF21
 refine wpList_nil (thenN (wp_seq (wp_seq (wp_region_lit ?_))))
 refine ev_runs 8 hF28 (l':=[(31,nP z10 0),(30,.bool false),(29,.bool false),(28,.bool false),(27,nP z10 0),(26,.bool false),(25,.bool false),(24,nI 0),(7,nP z22 0),(6,nI 0),(5,nP z10 0),(0,.slice pa0 K0.length ca0),(1,nI i1)]) (w':=w18) (by kernel_rfl) ?_
 intro a31 hF30; clear hF28
 have hS32:=hS20.pick1
 clear hS20
 refine ev_call 34 #[nP z10 0] hF30 rfl rfl (by kernel_rfl) rfl (by kernel_rfl) (fun w=>by kernel_rfl) ?_
 refine (p_Arena hS32).mono ?_
 rintro _ w33 ⟨rfl,hS35⟩ a34 hF36; clear hF30 hS32
 refine ev_runK 2 hF36 [0,1,5,7,34] (l':=[(34,.bool false),(7,nP z22 0),(5,nP z10 0),(0,.slice pa0 K0.length ca0),(1,nI i1)]) (w':=w33) (by kernel_rfl) ?_
 intro a38 hF37; clear hF36
 refine wpList_nil (thenN ?_)
 refine ev_condF hF37 rfl rfl ?_
 refine wp_skip ?_
 have hF39:=hF37.keep [0,1,5,7]
 clear hF37
 refine thenN (wp_seq (wp_region_lit ?_))
 refine ev_runs 4 hF39 (l':=[(38,nB w33),(37,.agg #[nP z10 0,nP z22 0,.slice none 0 0,.slice none 0 0]),(36,nP z22 0),(35,nP z10 0),(7,nP z22 0),(5,nP z10 0),(0,.slice pa0 K0.length ca0),(1,nI i1)]) (w':=w33.alloc (.cells #[nP z10 0,nP z22 0,.slice none 0 0,.slice none 0 0] 95)) (by kernel_rfl) ?_
 intro a41 hF40; clear hF39
 have hS43:St w0 [] (BlkP (w33.heap.size) 95 #[nP z10 0,nP z22 0,.slice none 0 0,.slice none 0 0]::HeapP z10 z11 s3::RHeapP z22 z23 z24 z25 z26 s15::ps) (w33.alloc (.cells #[nP z10 0,nP z22 0,.slice none 0 0,.slice none 0 0] 95)):=St.new hS35 #[nP z10 0,nP z22 0,.slice none 0 0,.slice none 0 0] 95
 clear hS35
 have hS45:St w0 [] (RowP (.slice none 0 0) []::BlkP (w33.heap.size) 95 #[nP z10 0,nP z22 0,.slice none 0 0,.slice none 0 0]::HeapP z10 z11 s3::RHeapP z22 z23 z24 z25 z26 s15::ps) (w33.alloc (.cells #[nP z10 0,nP z22 0,.slice none 0 0,.slice none 0 0] 95)):=St.nil hS43
 clear hS43
 have hS47:St w0 [] (RowP (.slice none 0 0) []::RowP (.slice none 0 0) []::BlkP (w33.heap.size) 95 #[nP z10 0,nP z22 0,.slice none 0 0,.slice none 0 0]::HeapP z10 z11 s3::RHeapP z22 z23 z24 z25 z26 s15::ps) (w33.alloc (.cells #[nP z10 0,nP z22 0,.slice none 0 0,.slice none 0 0] 95)):=St.nil hS45
 clear hS45
 refine ev_runK 1 hF40 [0,1,5,7,9] (l':=[(9,nB w33),(7,nP z22 0),(5,nP z10 0),(0,.slice pa0 K0.length ca0),(1,nI i1)]) (w':=w33.alloc (.cells #[nP z10 0,nP z22 0,.slice none 0 0,.slice none 0 0] 95)) (by kernel_rfl) ?_
 intro a49 hF48; clear hF40
 refine wpList_nil (thenN (wp_seq (wp_seq (wp_region_lit ?_))))
 refine ev_runs 1 hF48 (l':=[(10,nI 0),(9,nB w33),(7,nP z22 0),(5,nP z10 0),(0,.slice pa0 K0.length ca0),(1,nI i1)]) (w':=w33.alloc (.cells #[nP z10 0,nP z22 0,.slice none 0 0,.slice none 0 0] 95)) (by kernel_rfl) ?_
 intro a51 hF50; clear hF48
 refine wpList_nil (thenN ?_)
 refine wp_block ?_
 refine wp_loop_ghost (fun kI aI wI=>∃ (v53:Value) (L52:List Int) (s54:HSt) (s55:HSt) (x56:Int),Fr 119 aI [(10,nI x56),(9,nB w33),(7,nP z22 0),(5,nP z10 0),(0,.slice pa0 K0.length ca0),(1,nI i1)]∧St w0 [] (RowP (.slice none 0 0) []::RowP (v53) L52::BlkP (w33.heap.size) 95 #[nP z10 0,nP z22 0,v53,.slice none 0 0]::HeapP z10 z11 s54::RHeapP z22 z23 z24 z25 z26 s55::ps) wI∧law12_madeK.l5 K0 i1 k kI L52 s54 s55 x56=some r0) k ⟨.slice none 0 0,[],s3,s15,0,hF50,hS47,hm17⟩ ?_
 rintro k57 a58 w59 ⟨v53,L52,s54,s55,x56,hF60,hS61,hm62⟩
 clear hF50 hS47 hm17
 rcases k57 with _ | k57
 · cases hm62
 have hm63:law12_madeK.l5b K0 i1 k (law12_madeK.l5 K0 i1 k k57) L52 s54 s55 x56=some r0:=hm62
 clear hm62
 unfold law12_madeK.l5b at hm63
 obtain ⟨hl67,p64,c65,rfl,hp66⟩:=St.shape hS61 1 rfl
 refine wp_seq (wp_seq ?_)
 refine joinQ (fun aI wI=>∃ (y68:Bool),Fr 119 aI [(46,.bool (y68)),(10,nI x56),(9,nB w33),(7,nP z22 0),(5,nP z10 0),(0,.slice pa0 K0.length ca0),(1,nI i1)]∧St w0 [] (RowP (.slice none 0 0) []::RowP (.slice p64 L52.length c65) L52::BlkP (w33.heap.size) 95 #[nP z10 0,nP z22 0,.slice p64 L52.length c65,.slice none 0 0]::HeapP z10 z11 s54::RHeapP z22 z23 z24 z25 z26 s55::ps) wI∧law12_madeK.j6 K0 i1 k L52 s54 s55 x56 (law12_madeK.l5 K0 i1 k k57) y68=some r0) ?_ ?_
 rotate_left
 · rintro a70 w71 ⟨y68,hF72,hS73,hm74⟩
   clear hF60 hS61 hm63
   unfold law12_madeK.j6 at hm74
   refine thenN ?_
   cases hc76:(y68)
   case true =>
    rw [hc76] at hF72
    have hm77:=ifYes hc76 hm74; clear hm74
    refine ev_condT hF72 rfl rfl ?_
    refine wp_skip ?_
    have hF78:=hF72.keep [0,1,5,7,9,10]
    clear hF72
    refine thenN (wp_seq ?_)
    refine wp_block ?_
    refine wp_seq (wp_region_lit ?_)
    refine ev_runs 2 hF78 (l':=[(50,nI x56),(49,.slice pa0 K0.length ca0),(10,nI x56),(9,nB w33),(7,nP z22 0),(5,nP z10 0),(0,.slice pa0 K0.length ca0),(1,nI i1)]) (w':=w71) (by kernel_rfl) ?_
    intro a80 hF79; clear hF78
    obtain ⟨hc81,hm82⟩:=ifTE hm77; clear hm77
    obtain ⟨b83,o84,rfl⟩:=argK hA0 hc81
    refine ev_one (nP b83 ((o84+x56.toNat))) w71 hF79 (by kernel_rfl) rfl (by kernel_rfl) (run_idxO rfl rfl rfl rfl rfl (inR_spec hc81).1 (inR_spec hc81).2 _) (l':=[(51,nP b83 ((o84+x56.toNat))),(50,nI x56),(49,.slice (some ⟨b83,o84,none⟩) K0.length ca0),(10,nI x56),(9,nB w33),(7,nP z22 0),(5,nP z10 0),(0,.slice (some ⟨b83,o84,none⟩) K0.length ca0),(1,nI i1)]) (by kernel_rfl) ?_
    intro a86 hF85; clear hF79
    refine ev_one (nI (atI K0 x56)) w71 hF85 (by kernel_rfl) rfl (by kernel_rfl) (run_load1 rfl rfl rfl (argAt hA0 hS73 hc81)) (l':=[(52,nI (atI K0 x56)),(51,nP b83 ((o84+x56.toNat))),(50,nI x56),(49,.slice (some ⟨b83,o84,none⟩) K0.length ca0),(10,nI x56),(9,nB w33),(7,nP z22 0),(5,nP z10 0),(0,.slice (some ⟨b83,o84,none⟩) K0.length ca0),(1,nI i1)]) (by kernel_rfl) ?_
    intro a88 hF87; clear hF85
    refine ev_runs 5 hF87 (l':=[(11,nB w71),(56,.agg #[nI (IntKind.i64.wrap (Int.tmod (IntKind.u64.wrap (atI K0 x56)) 4)),nI 0,nI 0,nI 0,nI (-1),nI (-1),nI (-1),nI (-1),nI (-1)]),(55,nI (IntKind.i64.wrap (Int.tmod (IntKind.u64.wrap (atI K0 x56)) 4))),(54,.int .u64 (Int.tmod (IntKind.u64.wrap (atI K0 x56)) 4)),(53,.int .u64 (IntKind.u64.wrap (atI K0 x56))),(52,nI (atI K0 x56)),(51,nP b83 ((o84+x56.toNat))),(50,nI x56),(49,.slice (some ⟨b83,o84,none⟩) K0.length ca0),(10,nI x56),(9,nB w33),(7,nP z22 0),(5,nP z10 0),(0,.slice (some ⟨b83,o84,none⟩) K0.length ca0),(1,nI i1)]) (w':=w71.alloc (.cells #[nI 0,nI 0,nI 0,nI 0,nI 0,nI 0,nI 0,nI 0,nI 0] 23)) (by kernel_rfl) ?_
    intro a90 hF89; clear hF87
    have hS92:St w0 [] (BlkP (w71.heap.size) 23 #[nI 0,nI 0,nI 0,nI 0,nI 0,nI 0,nI 0,nI 0,nI 0]::RowP (.slice none 0 0) []::RowP (.slice p64 L52.length c65) L52::BlkP (w33.heap.size) 95 #[nP z10 0,nP z22 0,.slice p64 L52.length c65,.slice none 0 0]::HeapP z10 z11 s54::RHeapP z22 z23 z24 z25 z26 s55::ps) (w71.alloc (.cells #[nI 0,nI 0,nI 0,nI 0,nI 0,nI 0,nI 0,nI 0,nI 0] 23)):=St.new hS73 #[nI 0,nI 0,nI 0,nI 0,nI 0,nI 0,nI 0,nI 0,nI 0] 23
    clear hS73
    refine ev_store (.agg #[nI (IntKind.i64.wrap (Int.tmod (IntKind.u64.wrap (atI K0 x56)) 4)),nI 0,nI 0,nI 0,nI (-1),nI (-1),nI (-1),nI (-1),nI (-1)]) #[nI (IntKind.i64.wrap (Int.tmod (IntKind.u64.wrap (atI K0 x56)) 4)),nI 0,nI 0,nI 0,nI (-1),nI (-1),nI (-1),nI (-1),nI (-1)] hF89 (by kernel_rfl) rfl rfl rfl rfl (by kernel_rfl) hS92 (by kernel_rfl) (by kernel_rfl) (by kernel_rfl) (l':=[(11,nB w71),(56,.agg #[nI (IntKind.i64.wrap (Int.tmod (IntKind.u64.wrap (atI K0 x56)) 4)),nI 0,nI 0,nI 0,nI (-1),nI (-1),nI (-1),nI (-1),nI (-1)]),(55,nI (IntKind.i64.wrap (Int.tmod (IntKind.u64.wrap (atI K0 x56)) 4))),(54,.int .u64 (Int.tmod (IntKind.u64.wrap (atI K0 x56)) 4)),(53,.int .u64 (IntKind.u64.wrap (atI K0 x56))),(52,nI (atI K0 x56)),(51,nP b83 ((o84+x56.toNat))),(50,nI x56),(49,.slice (some ⟨b83,o84,none⟩) K0.length ca0),(10,nI x56),(9,nB w33),(7,nP z22 0),(5,nP z10 0),(0,.slice (some ⟨b83,o84,none⟩) K0.length ca0),(1,nI i1)]) (by kernel_rfl) ?_
    intro w93 a94 hS95 hF96; clear hF89 hS92
    refine wpList_nil ?_
    have hF97:=hF96.keep [0,1,5,7,9,10,11]
    clear hF96
    refine thenN (wp_seq (wp_region_lit ?_))
    refine ev_runs 1 hF97 (l':=[(57,nB w33),(11,nB w71),(10,nI x56),(9,nB w33),(7,nP z22 0),(5,nP z10 0),(0,.slice (some ⟨b83,o84,none⟩) K0.length ca0),(1,nI i1)]) (w':=w93) (by kernel_rfl) ?_
    intro a99 hF98; clear hF97
    have hS100:=hS95.pick1.pick2.pick5.pick5.pick5
    clear hS95
    refine ev_call 136 #[nB w33,nI 1,nI 9] hF98 rfl rfl (by kernel_rfl) rfl (by kernel_rfl) (fun w=>by kernel_rfl) ?_
    obtain ⟨x101,s102,s103,hx104,hm105⟩:=bind3E hm82; clear hm82
    refine (law12_alloc.ok hS100 hx104).mono ?_
    rintro _ w106 ⟨rfl,hS108⟩ a107 hF109; clear hF98 hS100
    refine ev_runK 1 hF109 [0,1,5,7,9,10,11,12] (l':=[(12,nI x101),(11,nB w71),(10,nI x56),(9,nB w33),(7,nP z22 0),(5,nP z10 0),(0,.slice (some ⟨b83,o84,none⟩) K0.length ca0),(1,nI i1)]) (w':=w106) (by kernel_rfl) ?_
    intro a111 hF110; clear hF109
    refine wpList_nil (thenN (wp_seq (wp_seq (wp_region_lit ?_))))
    refine ev_runs 1 hF110 (l':=[(59,nB w71),(12,nI x101),(11,nB w71),(10,nI x56),(9,nB w33),(7,nP z22 0),(5,nP z10 0),(0,.slice (some ⟨b83,o84,none⟩) K0.length ca0),(1,nI i1)]) (w':=w106) (by kernel_rfl) ?_
    intro a113 hF112; clear hF110
    refine ev_one (nI (IntKind.i64.wrap (Int.tmod (IntKind.u64.wrap (atI K0 x56)) 4))) w106 hF112 (by kernel_rfl) rfl (by kernel_rfl) (run_loadV rfl rfl (run_loadS rfl rfl (hS108.cell 5 rfl 0 rfl))) (l':=[(60,nI (IntKind.i64.wrap (Int.tmod (IntKind.u64.wrap (atI K0 x56)) 4))),(59,nB w71),(12,nI x101),(11,nB w71),(10,nI x56),(9,nB w33),(7,nP z22 0),(5,nP z10 0),(0,.slice (some ⟨b83,o84,none⟩) K0.length ca0),(1,nI i1)]) (by kernel_rfl) ?_
    intro a115 hF114; clear hF112
    refine ev_runK 1 hF114 [0,1,5,7,9,10,11,12,61] (l':=[(61,.bool (decide ((IntKind.i64.wrap (Int.tmod (IntKind.u64.wrap (atI K0 x56)) 4)) > 0))),(12,nI x101),(11,nB w71),(10,nI x56),(9,nB w33),(7,nP z22 0),(5,nP z10 0),(0,.slice (some ⟨b83,o84,none⟩) K0.length ca0),(1,nI i1)]) (w':=w106) (by kernel_rfl) ?_
    intro a117 hF116; clear hF114
    refine wpList_nil (thenN ?_)
    refine joinQ (fun aI wI=>∃ (s118:HSt) (s119:HSt) (x120:Int),Fr 119 aI [(12,nI x101),(11,nB w71),(10,nI x56),(9,nB w33),(7,nP z22 0),(5,nP z10 0),(0,.slice (some ⟨b83,o84,none⟩) K0.length ca0),(1,nI i1)]∧St w0 [] (BlkP (w33.heap.size) 95 #[nP z10 0,nP z22 0,.slice p64 L52.length c65,.slice none 0 0]::HeapP z10 z11 s118::RHeapP z22 z23 z24 z25 z26 s119::RowP (.slice p64 L52.length c65) L52::RowP (.slice none 0 0) []::BlkP (w71.heap.size) 23 #[nI (IntKind.i64.wrap (Int.tmod (IntKind.u64.wrap (atI K0 x56)) 4)),nI 0,nI 0,nI 0,nI x120,nI (-1),nI (-1),nI (-1),nI (-1)]::ps) wI∧law12_madeK.j7 K0 k L52 x56 (law12_madeK.l5 K0 i1 k k57) x101 s118 s119 x120=some r0) ?_ ?_
    rotate_left
    · rintro a122 w123 ⟨s118,s119,x120,hF124,hS125,hm126⟩
      clear hF116 hS108 hm105
      unfold law12_madeK.j7 at hm126
      refine thenN (wp_seq (wp_seq ?_))
      have hS128:=hS125.pick5
      clear hS125
      have hS129:=hS128.drew; clear hS128
      refine any_start (fun wS=>∃ qs,St w0 [] (BlkP (w71.heap.size) 23 #[nI (IntKind.i64.wrap (Int.tmod (IntKind.u64.wrap (atI K0 x56)) 4)),nI 0,nI 0,nI 0,nI x120,nI (-1),nI (-1),nI (-1),nI (-1)]::qs) wS) 9 #[false,false,false,false,false,false,false,false,false] (by kernel_rfl) (by kernel_rfl) (by kernel_rfl) ?_
      refine any_many 6 [(0,some (nP z10 0)),(1,some (nI x101)),(2,some (.agg #[nI (IntKind.i64.wrap (Int.tmod (IntKind.u64.wrap (atI K0 x56)) 4)),nI 0,nI 0,nI 0,nI x120,nI (-1),nI (-1),nI (-1),nI (-1)])),(4,some (nP z22 0)),(5,some (nI x101)),(6,some (.agg #[nI (IntKind.i64.wrap (Int.tmod (IntKind.u64.wrap (atI K0 x56)) 4)),nI 0,nI 0,nI 0,nI x120,nI (-1),nI (-1),nI (-1),nI (-1)]))] [0,1,5,7,9,10,12,67,68,69,70,71,72,73,74,75] #[true,true,true,false,true,true,true,false,false] (by rfl) hF124 (by kernel_rfl) (by kernel_rfl) (by exact ⟨fun wS hw=>by kernel_rfl,fun wS hw=>by kernel_rfl,fun wS hw=>hw.elim fun qs hw=>run_loadV rfl rfl (run_loadA (cs:=[nI (IntKind.i64.wrap (Int.tmod (IntKind.u64.wrap (atI K0 x56)) 4)),nI 0,nI 0,nI 0,nI x120,nI (-1),nI (-1),nI (-1),nI (-1)]) rfl rfl (by kernel_rfl) (blk_cells hw 0 rfl rfl)),fun wS hw=>by kernel_rfl,fun wS hw=>by kernel_rfl,fun wS hw=>hw.elim fun qs hw=>run_loadV rfl rfl (run_loadA (cs:=[nI (IntKind.i64.wrap (Int.tmod (IntKind.u64.wrap (atI K0 x56)) 4)),nI 0,nI 0,nI 0,nI x120,nI (-1),nI (-1),nI (-1),nI (-1)]) rfl rfl (by kernel_rfl) (blk_cells hw 0 rfl rfl)),trivial⟩) (fun _ _ _ _ _ h=>h) ⟨_,hS129⟩ (l':=[(73,.agg #[nI (IntKind.i64.wrap (Int.tmod (IntKind.u64.wrap (atI K0 x56)) 4)),nI 0,nI 0,nI 0,nI x120,nI (-1),nI (-1),nI (-1),nI (-1)]),(72,nI x101),(71,nP z22 0),(69,.agg #[nI (IntKind.i64.wrap (Int.tmod (IntKind.u64.wrap (atI K0 x56)) 4)),nI 0,nI 0,nI 0,nI x120,nI (-1),nI (-1),nI (-1),nI (-1)]),(68,nI x101),(67,nP z10 0),(12,nI x101),(10,nI x56),(9,nB w33),(7,nP z22 0),(5,nP z10 0),(0,.slice (some ⟨b83,o84,none⟩) K0.length ca0),(1,nI i1)]) (by kernel_rfl) ?_
      intro a131 hF130; clear hF124
      have hS132:=hS129.pick2
      clear hS129
      refine any_call 3 #[true,true,true,true,true,true,true,false,false] 16 #[nP z10 0,nI x101,.agg #[nI (IntKind.i64.wrap (Int.tmod (IntKind.u64.wrap (atI K0 x56)) 4)),nI 0,nI 0,nI 0,nI x120,nI (-1),nI (-1),nI (-1),nI (-1)]] hF130 rfl (by kernel_rfl) rfl rfl (by kernel_rfl) rfl (by kernel_rfl) (fun w=>by kernel_rfl) (by kernel_rfl) ?_
      obtain ⟨x133,s134,hx135,hm136⟩:=bind2E hm126; clear hm126
      refine (p_PutChan hS132 hx135).mono ?_
      rintro _ w137 ⟨rfl,hS139⟩; clear hS132
      refine ⟨⟨_,hS139.pick1⟩,?_⟩
      intro a138 hF140; clear hF130
      have hS141:=hS139.pick3
      clear hS139
      refine any_call 7 #[true,true,true,true,true,true,true,true,false] 17 #[nP z22 0,nI x101,.agg #[nI (IntKind.i64.wrap (Int.tmod (IntKind.u64.wrap (atI K0 x56)) 4)),nI 0,nI 0,nI 0,nI x120,nI (-1),nI (-1),nI (-1),nI (-1)]] hF140 rfl (by kernel_rfl) rfl rfl (by kernel_rfl) rfl (by kernel_rfl) (fun w=>by kernel_rfl) (by kernel_rfl) ?_
      obtain ⟨x142,s143,hx144,hm145⟩:=bind2E hm136; clear hm136
      refine (ref11_PutChan.ok hS141 hx144).mono ?_
      rintro _ w146 ⟨rfl,hS148⟩; clear hS141
      refine ⟨⟨_,hS148.pick2⟩,?_⟩
      intro a147 hF149; clear hF140
      refine any_many 1 [(8,some (.bool (x133 != x142)))] [0,1,5,7,9,10,12,75] #[true,true,true,true,true,true,true,true,true] (by rfl) hF149 (by kernel_rfl) (by kernel_rfl) (by exact ⟨fun wS hw=>by kernel_rfl,trivial⟩) (fun _ _ _ _ _ h=>h) ⟨_,hS148.pick2⟩ (l':=[(75,.bool (x133 != x142)),(12,nI x101),(10,nI x56),(9,nB w33),(7,nP z22 0),(5,nP z10 0),(0,.slice (some ⟨b83,o84,none⟩) K0.length ca0),(1,nI i1)]) (by kernel_rfl) ?_
      intro a151 hF150; clear hF149
      refine any_done (by kernel_rfl) ?_
      have hS152:=hS148.pick2.drop
      clear hS148
      refine thenN ?_
      cases hc153:(x133 != x142)
      case true =>
       rw [hc153] at hF150
       have hm154:=ifYes hc153 hm145; clear hm145
       refine ev_condT hF150 rfl rfl ?_
       refine wp_seq (wp_region_lit ?_)
       refine ev_runK 1 hF150 [4] (l':=[(4,.pointer none)]) (w':=w146) (by kernel_rfl) ?_
       intro a156 hF155; clear hF150
       refine wpList_nil ?_
       have hS157:=hS152.drop.drop.drop.drop.drop
       clear hS152
       refine thenN ?_
       refine wp_ret ?_
       refine thenR ?_
       refine blockR ?_
       refine thenR (thenR ?_)
       refine blockR ?_
       refine thenR ?_
       cases hm154
      rw [hc153] at hF150
      have hm158:=ifNot hc153 hm145; clear hm145
      refine ev_condF hF150 rfl rfl ?_
      refine wp_skip ?_
      have hF159:=hF150.keep [0,1,5,7,9,10,12]
      clear hF150
      refine thenN (wp_region_lit ?_)
      refine ev_runs 4 hF159 (l':=[(79,nP (w33.heap.size) 2),(78,nB w33),(77,nB w33),(76,nB w33),(12,nI x101),(10,nI x56),(9,nB w33),(7,nP z22 0),(5,nP z10 0),(0,.slice (some ⟨b83,o84,none⟩) K0.length ca0),(1,nI i1)]) (w':=w146) (by kernel_rfl) ?_
      intro a161 hF160; clear hF159
      refine ev_one (.slice p64 L52.length c65) w146 hF160 (by kernel_rfl) rfl (by kernel_rfl) (run_loadV rfl rfl (run_loadS rfl rfl (hS152.cell 2 rfl 2 rfl))) (l':=[(80,.slice p64 L52.length c65),(79,nP (w33.heap.size) 2),(78,nB w33),(77,nB w33),(76,nB w33),(12,nI x101),(10,nI x56),(9,nB w33),(7,nP z22 0),(5,nP z10 0),(0,.slice (some ⟨b83,o84,none⟩) K0.length ca0),(1,nI i1)]) (by kernel_rfl) ?_
      intro a163 hF162; clear hF160
      refine ev_runs 2 hF162 (l':=[(82,.slice (some ⟨w146.heap.size,0,none⟩) 1 1),(81,nI x101),(80,.slice p64 L52.length c65),(79,nP (w33.heap.size) 2),(78,nB w33),(77,nB w33),(76,nB w33),(12,nI x101),(10,nI x56),(9,nB w33),(7,nP z22 0),(5,nP z10 0),(0,.slice (some ⟨b83,o84,none⟩) K0.length ca0),(1,nI i1)]) (w':=w146.alloc (.cells #[nI x101] 3)) (by kernel_rfl) ?_
      intro a165 hF164; clear hF162
      have hS166:=hS152.pick3
      clear hS152
      obtain ⟨L167,hx168,hm169⟩:=bind1E hm158; clear hm158
      refine ev_push 83 (.tmp 80) (.tmp 82) hF164 rfl rfl rfl rfl rfl rfl rfl rfl hS166 hx168 ?_
      intro g170 c171 w172 a173 hS174 hF175; clear hF164 hS166
      refine ev_runs 2 hF175 (l':=[(85,nP (w33.heap.size) 2),(84,nB w33),(83,nS g170 L167 c171),(82,.slice (some ⟨w146.heap.size,0,none⟩) 1 1),(81,nI x101),(80,.slice p64 L52.length c65),(79,nP (w33.heap.size) 2),(78,nB w33),(77,nB w33),(76,nB w33),(12,nI x101),(10,nI x56),(9,nB w33),(7,nP z22 0),(5,nP z10 0),(0,.slice (some ⟨b83,o84,none⟩) K0.length ca0),(1,nI i1)]) (w':=w172) (by kernel_rfl) ?_
      intro a177 hF176; clear hF175
      have hS178:=hS174.pick3
      clear hS174
      refine ev_store (nS g170 L167 c171) #[nP z10 0,nP z22 0,nS g170 L167 c171,.slice none 0 0] hF176 (by kernel_rfl) rfl rfl rfl rfl (by kernel_rfl) hS178 (by kernel_rfl) (by kernel_rfl) (by kernel_rfl) (l':=[(85,nP (w33.heap.size) 2),(84,nB w33),(83,nS g170 L167 c171),(82,.slice (some ⟨w146.heap.size,0,none⟩) 1 1),(81,nI x101),(80,.slice p64 L52.length c65),(79,nP (w33.heap.size) 2),(78,nB w33),(77,nB w33),(76,nB w33),(12,nI x101),(10,nI x56),(9,nB w33),(7,nP z22 0),(5,nP z10 0),(0,.slice (some ⟨b83,o84,none⟩) K0.length ca0),(1,nI i1)]) (by kernel_rfl) ?_
      intro w179 a180 hS181 hF182; clear hF176 hS178
      refine wpList_nil ?_
      have hF183:=hF182.keep [0,1,5,7,9,10]
      clear hF182
      refine blockN ?_
      refine thenN (wp_region_lit ?_)
      refine ev_runK 3 hF183 [0,1,5,7,9,10] (l':=[(10,nI (IntKind.i64.wrap (x56+1))),(9,nB w33),(7,nP z22 0),(5,nP z10 0),(0,.slice (some ⟨b83,o84,none⟩) K0.length ca0),(1,nI i1)]) (w':=w179) (by kernel_rfl) ?_
      intro a185 hF184; clear hF183
      refine wpList_nil ?_
      have hS186:=hS181.pick2.pick3.pick2.pick3.pick4
      clear hS181
      exact thenN ⟨k57,Nat.lt_succ_self _,nS g170 L167 c171,L167,s134,s143,IntKind.i64.wrap (x56+1),hF184,hS186,hm169⟩
    · skip
      cases hc187:(decide ((IntKind.i64.wrap (Int.tmod (IntKind.u64.wrap (atI K0 x56)) 4)) > 0))
      case true =>
       rw [hc187] at hF116
       have hm188:=ifYes hc187 hm105; clear hm105
       refine ev_condT hF116 rfl rfl ?_
       refine wp_region_lit ?_
       refine ev_runs 2 hF116 (l':=[(63,nB w71),(62,nB w33),(61,.bool true),(12,nI x101),(11,nB w71),(10,nI x56),(9,nB w33),(7,nP z22 0),(5,nP z10 0),(0,.slice (some ⟨b83,o84,none⟩) K0.length ca0),(1,nI i1)]) (w':=w106) (by kernel_rfl) ?_
       intro a190 hF189; clear hF116
       refine ev_one (nI (IntKind.i64.wrap (Int.tmod (IntKind.u64.wrap (atI K0 x56)) 4))) w106 hF189 (by kernel_rfl) rfl (by kernel_rfl) (run_loadV rfl rfl (run_loadS rfl rfl (hS108.cell 5 rfl 0 rfl))) (l':=[(64,nI (IntKind.i64.wrap (Int.tmod (IntKind.u64.wrap (atI K0 x56)) 4))),(63,nB w71),(62,nB w33),(61,.bool true),(12,nI x101),(11,nB w71),(10,nI x56),(9,nB w33),(7,nP z22 0),(5,nP z10 0),(0,.slice (some ⟨b83,o84,none⟩) K0.length ca0),(1,nI i1)]) (by kernel_rfl) ?_
       intro a192 hF191; clear hF189
       refine ev_call 136 #[nB w33,nI 2,nI (IntKind.i64.wrap (Int.tmod (IntKind.u64.wrap (atI K0 x56)) 4))] hF191 rfl rfl (by kernel_rfl) rfl (by kernel_rfl) (fun w=>by kernel_rfl) ?_
       obtain ⟨x193,s194,s195,hx196,hm197⟩:=bind3E hm188; clear hm188
       refine (law12_alloc.ok hS108 hx196).mono ?_
       rintro _ w198 ⟨rfl,hS200⟩ a199 hF201; clear hF191 hS108
       refine ev_runs 1 hF201 (l':=[(66,nP (w71.heap.size) 4),(65,nI x193),(64,nI (IntKind.i64.wrap (Int.tmod (IntKind.u64.wrap (atI K0 x56)) 4))),(63,nB w71),(62,nB w33),(61,.bool true),(12,nI x101),(11,nB w71),(10,nI x56),(9,nB w33),(7,nP z22 0),(5,nP z10 0),(0,.slice (some ⟨b83,o84,none⟩) K0.length ca0),(1,nI i1)]) (w':=w198) (by kernel_rfl) ?_
       intro a203 hF202; clear hF201
       have hS204:=hS200.pick5
       clear hS200
       refine ev_store (nI x193) #[nI (IntKind.i64.wrap (Int.tmod (IntKind.u64.wrap (atI K0 x56)) 4)),nI 0,nI 0,nI 0,nI x193,nI (-1),nI (-1),nI (-1),nI (-1)] hF202 (by kernel_rfl) rfl rfl rfl rfl (by kernel_rfl) hS204 (by kernel_rfl) (by kernel_rfl) (by kernel_rfl) (l':=[(66,nP (w71.heap.size) 4),(65,nI x193),(64,nI (IntKind.i64.wrap (Int.tmod (IntKind.u64.wrap (atI K0 x56)) 4))),(63,nB w71),(62,nB w33),(61,.bool true),(12,nI x101),(11,nB w71),(10,nI x56),(9,nB w33),(7,nP z22 0),(5,nP z10 0),(0,.slice (some ⟨b83,o84,none⟩) K0.length ca0),(1,nI i1)]) (by kernel_rfl) ?_
       intro w205 a206 hS207 hF208; clear hF202 hS204
       refine wpList_nil ?_
       have hF209:=hF208.keep [0,1,5,7,9,10,11,12]
       clear hF208
       have hS210:=hS207.pick5.pick5.pick5.pick5.pick5
       clear hS207
       exact thenN ⟨s194,s195,x193,hF209,hS210,hm197⟩
      rw [hc187] at hF116
      have hm211:=ifNot hc187 hm105; clear hm105
      refine ev_condF hF116 rfl rfl ?_
      refine wp_skip ?_
      have hF212:=hF116.keep [0,1,5,7,9,10,11,12]
      clear hF116
      exact thenN ⟨s102,s103,-1,hF212,hS108,hm211⟩
   rw [hc76] at hF72
   have hm213:=ifNot hc76 hm74; clear hm74
   refine ev_condF hF72 rfl rfl ?_
   refine wp_exit ?_
   refine thenE ?_
   refine thenE ?_
   refine blockE ?_
   refine thenN (wp_seq (wp_seq (wp_region_lit ?_)))
   refine ev_runK 1 hF72 [1,5,7,9,13] (l':=[(13,nI 0),(9,nB w33),(7,nP z22 0),(5,nP z10 0),(1,nI i1)]) (w':=w71) (by kernel_rfl) ?_
   intro a215 hF214; clear hF72
   refine wpList_nil (thenN ?_)
   refine wp_block ?_
   refine wp_loop_ghost (fun kI aI wI=>∃ (v217:Value) (L216:List Int) (s218:HSt) (s219:HSt) (x220:Int),Fr 119 aI [(13,nI x220),(9,nB w33),(7,nP z22 0),(5,nP z10 0),(1,nI i1)]∧St w0 [] (RowP (v217) L216::RowP (.slice p64 L52.length c65) L52::BlkP (w33.heap.size) 95 #[nP z10 0,nP z22 0,.slice p64 L52.length c65,v217]::HeapP z10 z11 s218::RHeapP z22 z23 z24 z25 z26 s219::ps) wI∧law12_madeK.l8 i1 k L52 kI L216 s218 s219 x220=some r0) k ⟨.slice none 0 0,[],s54,s55,0,hF214,hS73,hm213⟩ ?_
   rintro k221 a222 w223 ⟨v217,L216,s218,s219,x220,hF224,hS225,hm226⟩
   clear hF214 hS73 hm213
   rcases k221 with _ | k221
   · cases hm226
   have hm227:law12_madeK.l8b i1 k L52 (law12_madeK.l8 i1 k L52 k221) L216 s218 s219 x220=some r0:=hm226
   clear hm226
   unfold law12_madeK.l8b at hm227
   obtain ⟨hl231,p228,c229,rfl,hp230⟩:=St.shape hS225 0 rfl
   refine wp_seq (wp_seq (wp_region_lit ?_))
   refine ev_runK 7 hF224 [1,5,7,9,13,92] (l':=[(92,.bool (decide (x220<(IntKind.i64.wrap (1+(IntKind.i64.wrap (Int.tmod (IntKind.u64.wrap i1) 6))))))),(13,nI x220),(9,nB w33),(7,nP z22 0),(5,nP z10 0),(1,nI i1)]) (w':=w223) (by kernel_rfl) ?_
   intro a233 hF232; clear hF224
   refine wpList_nil (thenN ?_)
   cases hc234:(decide (x220<(IntKind.i64.wrap (1+(IntKind.i64.wrap (Int.tmod (IntKind.u64.wrap i1) 6))))))
   case true =>
    rw [hc234] at hF232
    have hm235:=ifYes hc234 hm227; clear hm227
    refine ev_condT hF232 rfl rfl ?_
    refine wp_skip ?_
    have hF236:=hF232.keep [1,5,7,9,13]
    clear hF232
    refine thenN (wp_seq ?_)
    refine wp_block ?_
    refine wp_seq (wp_region_lit ?_)
    refine ev_runs 1 hF236 (l':=[(95,nB w33),(13,nI x220),(9,nB w33),(7,nP z22 0),(5,nP z10 0),(1,nI i1)]) (w':=w223) (by kernel_rfl) ?_
    intro a238 hF237; clear hF236
    have hS239:=hS225.pick1.pick4.pick4.pick4
    clear hS225
    refine ev_call 136 #[nB w33,nI 4,nI 10] hF237 rfl rfl (by kernel_rfl) rfl (by kernel_rfl) (fun w=>by kernel_rfl) ?_
    obtain ⟨x240,s241,s242,hx243,hm244⟩:=bind3E hm235; clear hm235
    refine (law12_alloc.ok hS239 hx243).mono ?_
    rintro _ w245 ⟨rfl,hS247⟩ a246 hF248; clear hF237 hS239
    refine ev_runK 1 hF248 [1,5,7,9,13,14] (l':=[(14,nI x240),(13,nI x220),(9,nB w33),(7,nP z22 0),(5,nP z10 0),(1,nI i1)]) (w':=w245) (by kernel_rfl) ?_
    intro a250 hF249; clear hF248
    refine wpList_nil (thenN (wp_seq (wp_region_lit ?_)))
    refine ev_runs 3 hF249 (l':=[(15,nB w245),(98,.agg #[nI x220,nI 0,nI 0,nI 0,nI 0,nI 0,nI 0,nI 0,nI 0,nI (-1)]),(97,nI x220),(14,nI x240),(13,nI x220),(9,nB w33),(7,nP z22 0),(5,nP z10 0),(1,nI i1)]) (w':=w245.alloc (.cells #[nI 0,nI 0,nI 0,nI 0,nI 0,nI 0,nI 0,nI 0,nI 0,nI 0] 28)) (by kernel_rfl) ?_
    intro a252 hF251; clear hF249
    have hS254:St w0 [] (BlkP (w245.heap.size) 28 #[nI 0,nI 0,nI 0,nI 0,nI 0,nI 0,nI 0,nI 0,nI 0,nI 0]::BlkP (w33.heap.size) 95 #[nP z10 0,nP z22 0,.slice p64 L52.length c65,.slice p228 L216.length c229]::HeapP z10 z11 s241::RHeapP z22 z23 z24 z25 z26 s242::RowP (.slice p64 L52.length c65) L52::RowP (.slice p228 L216.length c229) L216::ps) (w245.alloc (.cells #[nI 0,nI 0,nI 0,nI 0,nI 0,nI 0,nI 0,nI 0,nI 0,nI 0] 28)):=St.new hS247 #[nI 0,nI 0,nI 0,nI 0,nI 0,nI 0,nI 0,nI 0,nI 0,nI 0] 28
    clear hS247
    refine ev_store (.agg #[nI x220,nI 0,nI 0,nI 0,nI 0,nI 0,nI 0,nI 0,nI 0,nI (-1)]) #[nI x220,nI 0,nI 0,nI 0,nI 0,nI 0,nI 0,nI 0,nI 0,nI (-1)] hF251 (by kernel_rfl) rfl rfl rfl rfl (by kernel_rfl) hS254 (by kernel_rfl) (by kernel_rfl) (by kernel_rfl) (l':=[(15,nB w245),(98,.agg #[nI x220,nI 0,nI 0,nI 0,nI 0,nI 0,nI 0,nI 0,nI 0,nI (-1)]),(97,nI x220),(14,nI x240),(13,nI x220),(9,nB w33),(7,nP z22 0),(5,nP z10 0),(1,nI i1)]) (by kernel_rfl) ?_
    intro w255 a256 hS257 hF258; clear hF251 hS254
    refine wpList_nil ?_
    have hF259:=hF258.keep [1,5,7,9,13,14,15]
    clear hF258
    refine thenN (wp_seq (wp_seq ?_))
    have hS260:=hS257.drew; clear hS257
    refine any_start (fun wS=>∃ qs,St w0 [] (BlkP (w245.heap.size) 28 #[nI x220,nI 0,nI 0,nI 0,nI 0,nI 0,nI 0,nI 0,nI 0,nI (-1)]::qs) wS) 9 #[false,false,false,false,false,false,false,false,false] (by kernel_rfl) (by kernel_rfl) (by kernel_rfl) ?_
    refine any_many 6 [(0,some (nP z10 0)),(1,some (nI x240)),(2,some (.agg #[nI x220,nI 0,nI 0,nI 0,nI 0,nI 0,nI 0,nI 0,nI 0,nI (-1)])),(4,some (nP z22 0)),(5,some (nI x240)),(6,some (.agg #[nI x220,nI 0,nI 0,nI 0,nI 0,nI 0,nI 0,nI 0,nI 0,nI (-1)]))] [1,5,7,9,13,14,99,100,101,102,103,104,105,106,107] #[true,true,true,false,true,true,true,false,false] (by rfl) hF259 (by kernel_rfl) (by kernel_rfl) (by exact ⟨fun wS hw=>by kernel_rfl,fun wS hw=>by kernel_rfl,fun wS hw=>hw.elim fun qs hw=>run_loadV rfl rfl (run_loadA (cs:=[nI x220,nI 0,nI 0,nI 0,nI 0,nI 0,nI 0,nI 0,nI 0,nI (-1)]) rfl rfl (by kernel_rfl) (blk_cells hw 0 rfl rfl)),fun wS hw=>by kernel_rfl,fun wS hw=>by kernel_rfl,fun wS hw=>hw.elim fun qs hw=>run_loadV rfl rfl (run_loadA (cs:=[nI x220,nI 0,nI 0,nI 0,nI 0,nI 0,nI 0,nI 0,nI 0,nI (-1)]) rfl rfl (by kernel_rfl) (blk_cells hw 0 rfl rfl)),trivial⟩) (fun _ _ _ _ _ h=>h) ⟨_,hS260⟩ (l':=[(105,.agg #[nI x220,nI 0,nI 0,nI 0,nI 0,nI 0,nI 0,nI 0,nI 0,nI (-1)]),(104,nI x240),(103,nP z22 0),(101,.agg #[nI x220,nI 0,nI 0,nI 0,nI 0,nI 0,nI 0,nI 0,nI 0,nI (-1)]),(100,nI x240),(99,nP z10 0),(14,nI x240),(13,nI x220),(9,nB w33),(7,nP z22 0),(5,nP z10 0),(1,nI i1)]) (by kernel_rfl) ?_
    intro a262 hF261; clear hF259
    have hS263:=hS260.pick2
    clear hS260
    refine any_call 3 #[true,true,true,true,true,true,true,false,false] 20 #[nP z10 0,nI x240,.agg #[nI x220,nI 0,nI 0,nI 0,nI 0,nI 0,nI 0,nI 0,nI 0,nI (-1)]] hF261 rfl (by kernel_rfl) rfl rfl (by kernel_rfl) rfl (by kernel_rfl) (fun w=>by kernel_rfl) (by kernel_rfl) ?_
    obtain ⟨x264,s265,hx266,hm267⟩:=bind2E hm244; clear hm244
    refine (p_PutGor hS263 hx266).mono ?_
    rintro _ w268 ⟨rfl,hS270⟩; clear hS263
    refine ⟨⟨_,hS270.pick1⟩,?_⟩
    intro a269 hF271; clear hF261
    have hS272:=hS270.pick3
    clear hS270
    refine any_call 7 #[true,true,true,true,true,true,true,true,false] 21 #[nP z22 0,nI x240,.agg #[nI x220,nI 0,nI 0,nI 0,nI 0,nI 0,nI 0,nI 0,nI 0,nI (-1)]] hF271 rfl (by kernel_rfl) rfl rfl (by kernel_rfl) rfl (by kernel_rfl) (fun w=>by kernel_rfl) (by kernel_rfl) ?_
    obtain ⟨x273,s274,hx275,hm276⟩:=bind2E hm267; clear hm267
    refine (ref11_PutGor.ok hS272 hx275).mono ?_
    rintro _ w277 ⟨rfl,hS279⟩; clear hS272
    refine ⟨⟨_,hS279.pick2⟩,?_⟩
    intro a278 hF280; clear hF271
    refine any_many 1 [(8,some (.bool (x264 != x273)))] [1,5,7,9,13,14,107] #[true,true,true,true,true,true,true,true,true] (by rfl) hF280 (by kernel_rfl) (by kernel_rfl) (by exact ⟨fun wS hw=>by kernel_rfl,trivial⟩) (fun _ _ _ _ _ h=>h) ⟨_,hS279.pick2⟩ (l':=[(107,.bool (x264 != x273)),(14,nI x240),(13,nI x220),(9,nB w33),(7,nP z22 0),(5,nP z10 0),(1,nI i1)]) (by kernel_rfl) ?_
    intro a282 hF281; clear hF280
    refine any_done (by kernel_rfl) ?_
    have hS283:=hS279.pick2.drop
    clear hS279
    refine thenN ?_
    cases hc284:(x264 != x273)
    case true =>
     rw [hc284] at hF281
     have hm285:=ifYes hc284 hm276; clear hm276
     refine ev_condT hF281 rfl rfl ?_
     refine wp_seq (wp_region_lit ?_)
     refine ev_runK 1 hF281 [4] (l':=[(4,.pointer none)]) (w':=w277) (by kernel_rfl) ?_
     intro a287 hF286; clear hF281
     refine wpList_nil ?_
     have hS288:=hS283.drop.drop.drop.drop.drop
     clear hS283
     refine thenN ?_
     refine wp_ret ?_
     refine thenR ?_
     refine blockR ?_
     refine thenR (thenR ?_)
     refine blockR ?_
     refine thenR ?_
     cases hm285
    rw [hc284] at hF281
    have hm289:=ifNot hc284 hm276; clear hm276
    refine ev_condF hF281 rfl rfl ?_
    refine wp_skip ?_
    have hF290:=hF281.keep [1,5,7,9,13,14]
    clear hF281
    refine thenN (wp_region_lit ?_)
    refine ev_runs 4 hF290 (l':=[(111,nP (w33.heap.size) 3),(110,nB w33),(109,nB w33),(108,nB w33),(14,nI x240),(13,nI x220),(9,nB w33),(7,nP z22 0),(5,nP z10 0),(1,nI i1)]) (w':=w277) (by kernel_rfl) ?_
    intro a292 hF291; clear hF290
    refine ev_one (.slice p228 L216.length c229) w277 hF291 (by kernel_rfl) rfl (by kernel_rfl) (run_loadV rfl rfl (run_loadS rfl rfl (hS283.cell 2 rfl 3 rfl))) (l':=[(112,.slice p228 L216.length c229),(111,nP (w33.heap.size) 3),(110,nB w33),(109,nB w33),(108,nB w33),(14,nI x240),(13,nI x220),(9,nB w33),(7,nP z22 0),(5,nP z10 0),(1,nI i1)]) (by kernel_rfl) ?_
    intro a294 hF293; clear hF291
    refine ev_runs 2 hF293 (l':=[(114,.slice (some ⟨w277.heap.size,0,none⟩) 1 1),(113,nI x240),(112,.slice p228 L216.length c229),(111,nP (w33.heap.size) 3),(110,nB w33),(109,nB w33),(108,nB w33),(14,nI x240),(13,nI x220),(9,nB w33),(7,nP z22 0),(5,nP z10 0),(1,nI i1)]) (w':=w277.alloc (.cells #[nI x240] 3)) (by kernel_rfl) ?_
    intro a296 hF295; clear hF293
    have hS297:=hS283.pick4
    clear hS283
    obtain ⟨L298,hx299,hm300⟩:=bind1E hm289; clear hm289
    refine ev_push 115 (.tmp 112) (.tmp 114) hF295 rfl rfl rfl rfl rfl rfl rfl rfl hS297 hx299 ?_
    intro g301 c302 w303 a304 hS305 hF306; clear hF295 hS297
    refine ev_runs 2 hF306 (l':=[(117,nP (w33.heap.size) 3),(116,nB w33),(115,.slice (some ⟨g301,0,none⟩) L298.length c302),(114,.slice (some ⟨w277.heap.size,0,none⟩) 1 1),(113,nI x240),(112,.slice p228 L216.length c229),(111,nP (w33.heap.size) 3),(110,nB w33),(109,nB w33),(108,nB w33),(14,nI x240),(13,nI x220),(9,nB w33),(7,nP z22 0),(5,nP z10 0),(1,nI i1)]) (w':=w303) (by kernel_rfl) ?_
    intro a308 hF307; clear hF306
    have hS309:=hS305.pick3
    clear hS305
    refine ev_store (.slice (some ⟨g301,0,none⟩) L298.length c302) #[nP z10 0,nP z22 0,.slice p64 L52.length c65,.slice (some ⟨g301,0,none⟩) L298.length c302] hF307 (by kernel_rfl) rfl rfl rfl rfl (by kernel_rfl) hS309 (by kernel_rfl) (by kernel_rfl) (by kernel_rfl) (l':=[(117,nP (w33.heap.size) 3),(116,nB w33),(115,.slice (some ⟨g301,0,none⟩) L298.length c302),(114,.slice (some ⟨w277.heap.size,0,none⟩) 1 1),(113,nI x240),(112,.slice p228 L216.length c229),(111,nP (w33.heap.size) 3),(110,nB w33),(109,nB w33),(108,nB w33),(14,nI x240),(13,nI x220),(9,nB w33),(7,nP z22 0),(5,nP z10 0),(1,nI i1)]) (by kernel_rfl) ?_
    intro w310 a311 hS312 hF313; clear hF307 hS309
    refine wpList_nil ?_
    have hF314:=hF313.keep [1,5,7,9,13]
    clear hF313
    refine blockN ?_
    refine thenN (wp_region_lit ?_)
    refine ev_runK 3 hF314 [1,5,7,9,13] (l':=[(13,nI (IntKind.i64.wrap (x220+1))),(9,nB w33),(7,nP z22 0),(5,nP z10 0),(1,nI i1)]) (w':=w310) (by kernel_rfl) ?_
    intro a316 hF315; clear hF314
    refine wpList_nil ?_
    have hS317:=hS312.pick2.pick3.pick2.pick4.pick4
    clear hS312
    exact thenN ⟨k221,Nat.lt_succ_self _,.slice (some ⟨g301,0,none⟩) L298.length c302,L298,s265,s274,IntKind.i64.wrap (x220+1),hF315,hS317,hm300⟩
   rw [hc234] at hF232
   have hm318:=ifNot hc234 hm227; clear hm227
   refine ev_condF hF232 rfl rfl ?_
   refine wp_exit ?_
   refine thenE ?_
   refine thenE ?_
   refine blockE ?_
   refine thenN (wp_seq (wp_region_lit ?_))
   refine ev_runK 2 hF232 [4] (l':=[(4,nB w33)]) (w':=w223) (by kernel_rfl) ?_
   intro a320 hF319; clear hF232
   refine wpList_nil (thenN ?_)
   refine wp_ret ?_
   have hS321:=hS225.pick1.pick4.pick4.pick4
   clear hS225
   obtain rfl:=Option.some.inj hm318
   refine ev_ret hF319 [4] (nB w33) rfl rfl rfl ?_
   exact ⟨_,_,_,_,_,_,_,_,_,_,rfl,hS321⟩
 · skip
   refine wp_region_lit ?_
   refine ev_runs 5 hF60 (l':=[(43,.bool (decide (x56<(K0.length:Int)))),(42,.bool (decide (x56<(K0.length:Int)))),(41,nI ((K0.length:Int))),(40,.slice pa0 K0.length ca0),(39,nI x56),(10,nI x56),(9,nB w33),(7,nP z22 0),(5,nP z10 0),(0,.slice pa0 K0.length ca0),(1,nI i1)]) (w':=w59) (by kernel_rfl) ?_
   intro a324 hF323; clear hF60
   cases hc325:(decide (x56<(K0.length:Int)))
   case true =>
    rw [hc325] at hF323
    have hm326:=ifYes hc325 hm63; clear hm63
    refine ev_runK 3 hF323 [0,1,5,7,9,10,46] (l':=[(46,.bool (decide (x56<4))),(10,nI x56),(9,nB w33),(7,nP z22 0),(5,nP z10 0),(0,.slice pa0 K0.length ca0),(1,nI i1)]) (w':=w59) (by kernel_rfl) ?_
    intro a328 hF327; clear hF323
    refine wpList_nil ?_
    exact thenN ⟨decide (x56<4),hF327,hS61,hm326⟩
   rw [hc325] at hF323
   have hm329:=ifNot hc325 hm63; clear hm63
   refine ev_runK 3 hF323 [0,1,5,7,9,10,46] (l':=[(46,.bool false),(10,nI x56),(9,nB w33),(7,nP z22 0),(5,nP z10 0),(0,.slice pa0 K0.length ca0),(1,nI i1)]) (w':=w59) (by kernel_rfl) ?_
   intro a331 hF330; clear hF323
   refine wpList_nil ?_
   exact thenN ⟨false,hF330,hS61,hm329⟩
def RingPlays.j23 (x61:Int) (rec64:HSt→HSt→Int→Option (Bool)) (s134:HSt) (s135:HSt) (y136:Bool):Option (Bool):=(if (y136) then some (false) else rec64 s135 s134 (IntKind.i64.wrap (x61+1)))
def RingPlays.j22 (k:Nat) (L7:List Int) (L8:List Int) (x61:Int) (rec64:HSt→HSt→Int→Option (Bool)) (x104:Int) (s124:HSt) (s125:HSt) (y126:Bool):Option (Bool):=(if (!(y126)) then RingPlays.j23 x61 rec64 s124 s125 true else bind3 (law12_alike.m k s125 s124 L7 L8) fun y167 s168 s169=>(if (!(y167)) then RingPlays.j23 x61 rec64 s169 s168 true else bind2 (ring_All.m k s168 x104) fun L187 s188=>bind2 (ref11_AllRing.m k s169 x104) fun L202 s203=>bind1 (help_Plain.m k L187 L202) fun y217=>RingPlays.j23 x61 rec64 s203 s188 (!(y217))))
def RingPlays.j24 (k:Nat) (L7:List Int) (L8:List Int) (x61:Int) (rec64:HSt→HSt→Int→Option (Bool)) (x104:Int) (s239:HSt) (s258:HSt) (y267:Bool):Option (Bool):=RingPlays.j22 k L7 L8 x61 rec64 x104 s258 s239 y267
def RingPlays.j25 (k:Nat) (L7:List Int) (L8:List Int) (x61:Int) (rec64:HSt→HSt→Int→Option (Bool)) (x104:Int) (s287:HSt) (s288:HSt) (y289:Bool):Option (Bool):=RingPlays.j22 k L7 L8 x61 rec64 x104 s287 s288 y289
def RingPlays.j26 (k:Nat) (L7:List Int) (L8:List Int) (x61:Int) (rec64:HSt→HSt→Int→Option (Bool)) (x104:Int) (s299:HSt) (s300:HSt) (y301:Bool):Option (Bool):=RingPlays.j25 k L7 L8 x61 rec64 x104 s299 s300 y301
def RingPlays.j27 (k:Nat) (L7:List Int) (L8:List Int) (x61:Int) (rec64:HSt→HSt→Int→Option (Bool)) (x104:Int) (s393:HSt) (s394:HSt) (y395:Bool):Option (Bool):=RingPlays.j25 k L7 L8 x61 rec64 x104 s394 s393 y395
def RingPlays.j28 (k:Nat) (L7:List Int) (L8:List Int) (x61:Int) (rec64:HSt→HSt→Int→Option (Bool)) (x104:Int) (s417:HSt) (s418:HSt):Option (Bool):=RingPlays.j27 k L7 L8 x61 rec64 x104 s417 s418 true
def RingPlays.j29 (k:Nat) (L7:List Int) (L8:List Int) (x61:Int) (rec64:HSt→HSt→Int→Option (Bool)) (x104:Int) (s483:HSt) (s484:HSt) (x485:Int):Option (Bool):=bind2 (ring_Put.m k s483 x104 x485) fun x497 s498=>bind2 (ref11_PutRing.m k s484 x104 x485) fun x506 s507=>RingPlays.j27 k L7 L8 x61 rec64 x104 s498 s507 (x497 == x506)
def RingPlays.j21 (K1:List Op12) (k:Nat) (L7:List Int) (L8:List Int) (s59:HSt) (s60:HSt) (x61:Int) (rec64:HSt→HSt→Int→Option (Bool)) (y69:Bool):Option (Bool):=(if (y69) then (if (inR x61 K1.length) then bind3 (law12_ch.m k s59 s60 L7 L8 ((atX kOp12 K1 x61).ch)) fun x104 s105 s106=>(if (((atX kOp12 K1 x61).kind) == 1) then bind3 (ring_Take.m k s105 x104) fun x237 x238 s239=>bind3 (ref11_TakeRing.m k s106 x104) fun x256 x257 s258=>(if (x237 == x256) then RingPlays.j24 k L7 L8 x61 rec64 x104 s239 s258 (x238 == x257) else RingPlays.j24 k L7 L8 x61 rec64 x104 s239 s258 false) else (if (((atX kOp12 K1 x61).kind) == 2) then bind2 (pBegin s105 [x104]) fun x316 s317=>bind2 (pBegin s106 [x104]) fun x328 s329=>RingPlays.j26 k L7 L8 x61 rec64 x104 s329 s317 (x316 == x328) else (if (((atX kOp12 K1 x61).kind) == 3) then (if (s106.ph == 1) then bind2 (pStep s105) fun L433 s434=>bind2 (ref06_Step.m k s106) fun L454 s455=>RingPlays.j28 k L7 L8 x61 rec64 x104 s434 s455 else RingPlays.j28 k L7 L8 x61 rec64 x104 s105 s106) else (if ((Int.tmod ((atX kOp12 K1 x61).w) 3) == 0) then bind3 (law12_gor.m k s105 s106 L7 L8 0) fun x521 s522 s523=>RingPlays.j29 k L7 L8 x61 rec64 x104 s522 s523 (IntKind.i64.wrap ((IntKind.i64.wrap (2 * x521))+1)) else RingPlays.j29 k L7 L8 x61 rec64 x104 s105 s106 ((atX kOp12 K1 x61).w))))) else none) else some (true))
def RingPlays.l20b (K1:List Op12) (k:Nat) (L7:List Int) (L8:List Int) (rec64:HSt→HSt→Int→Option (Bool)) (s59:HSt) (s60:HSt) (x61:Int):Option (Bool):=(if (decide (x61<(K1.length:Int))) then RingPlays.j21 K1 k L7 L8 s59 s60 x61 rec64 (decide (x61<80)) else RingPlays.j21 K1 k L7 L8 s59 s60 x61 rec64 false)
def RingPlays.l20 (K1:List Op12) (k:Nat) (L7:List Int) (L8:List Int):Nat→HSt→HSt→Int→Option (Bool)
  | 0=>fun _ _ _=>none
  | kI+1=>RingPlays.l20b K1 k L7 L8 (RingPlays.l20 K1 k L7 L8 kI)
def RingPlays.j1 (K1:List Op12) (k:Nat) (s5:HSt) (s6:HSt) (L7:List Int) (L8:List Int) (y41:Bool):Option (Bool):=(if (y41) then some (false) else RingPlays.l20 K1 k L7 L8 k s5 s6 0)
def RingPlays.m (k:Nat) (K0:List Int) (K1:List Op12):Option (Bool):=bind4 (law12_madeK.m k K0 1) fun s5 s6 L7 L8=>bind1 (law12_awake.m k ) fun y548=>(if (!(y548)) then RingPlays.j1 K1 k s5 s6 L7 L8 true else RingPlays.j1 K1 k s5 s6 L7 L8 false)
set_option maxRecDepth 100000 in
set_option maxHeartbeats 40000000 in
theorem RingPlays.ok {w0 w:World} {ps:List Piece} {k:Nat} {pa0:Option Addr} {ca0:Nat} {K0:List Int} (hA0:ArgInts w0 (.slice pa0 K0.length ca0) K0) {pa1:Option Addr} {ca1:Nat} {K1:List Op12} (hA1:ArgX kOp12 w0 (.slice pa1 K1.length ca1) K1) {r0:Bool} (hS:St w0 [] (ps) w) (hm:RingPlays.m k K0 K1=some r0) :
    Calls Tryz.prog 7 #[.slice pa0 K0.length ca0,.slice pa1 K1.length ca1] w fun e w'=>e=.returned (.bool r0)∧St w0 [] (ps) w':=by
 refine ev_enterL 155 [.slice pa0 K0.length ca0,.slice pa1 K1.length ca1] Tryz.func7 rfl rfl (by simp) ?_
 intro a hF
 have hF0:Fr 155 a [(0,.slice pa0 K0.length ca0),(1,.slice pa1 K1.length ca1)]:=hF; clear hF
 unfold RingPlays.m at hm
 refine wp_seq (wp_region_lit ?_)
 refine ev_runK 1 hF0 [0,1] (l':=[(0,.slice pa0 K0.length ca0),(1,.slice pa1 K1.length ca1)]) (w':=w) (by kernel_rfl) ?_
 intro a2 hF1; clear hF0
 refine wpList_nil (thenN (wp_seq (wp_region_lit ?_)))
 refine ev_runs 1 hF1 (l':=[(15,.slice pa0 K0.length ca0),(0,.slice pa0 K0.length ca0),(1,.slice pa1 K1.length ca1)]) (w':=w) (by kernel_rfl) ?_
 intro a4 hF3; clear hF1
 refine ev_call 53 #[.slice pa0 K0.length ca0,nI 1] hF3 rfl rfl (by kernel_rfl) rfl (by kernel_rfl) (fun w=>by kernel_rfl) ?_
 obtain ⟨s5,s6,L7,L8,hx9,hm10⟩:=bind4E hm; clear hm
 refine (law12_madeK.ok hA0 hS hx9).mono ?_
 rintro _ w11 ⟨z15,z16,z17,z18,z19,z20,z21,z22,z23,z24,rfl,hS13⟩ a12 hF14; clear hF3 hS
 have hS30:St w0 [] (BlkP z15 95 #[nP z16 0,nP z18 0,z23,z24]::HeapP z16 z17 s5::RHeapP z18 z19 z20 z21 z22 s6::RowP (z23) L7::RowP (z24) L8::ps) w11:=hS13
 clear hS13
 obtain ⟨hl34,p31,c32,rfl,hp33⟩:=St.shape hS30 3 rfl
 obtain ⟨hl38,p35,c36,rfl,hp37⟩:=St.shape hS30 4 rfl
 refine ev_runK 1 hF14 [1,5] (l':=[(5,nP z15 0),(1,.slice pa1 K1.length ca1)]) (w':=w11) (by kernel_rfl) ?_
 intro a40 hF39; clear hF14
 refine wpList_nil (thenN (wp_seq (wp_seq ?_)))
 refine joinQ (fun aI wI=>∃ (y41:Bool),Fr 155 aI [(22,.bool (y41)),(5,nP z15 0),(1,.slice pa1 K1.length ca1)]∧St w0 [] (BlkP z15 95 #[nP z16 0,nP z18 0,.slice p31 L7.length c32,.slice p35 L8.length c36]::HeapP z16 z17 s5::RHeapP z18 z19 z20 z21 z22 s6::RowP (.slice p31 L7.length c32) L7::RowP (.slice p35 L8.length c36) L8::ps) wI∧RingPlays.j1 K1 k s5 s6 L7 L8 y41=some r0) ?_ ?_
 rotate_left
 · rintro a43 w44 ⟨y41,hF45,hS46,hm47⟩
   clear hF39 hS30 hm10
   unfold RingPlays.j1 at hm47
   refine thenN ?_
   cases hc49:(y41)
   case true =>
    rw [hc49] at hF45
    have hm50:=ifYes hc49 hm47; clear hm47
    refine ev_condT hF45 rfl rfl ?_
    refine wp_seq (wp_region_lit ?_)
    refine ev_runK 1 hF45 [4] (l':=[(4,.bool false)]) (w':=w44) (by kernel_rfl) ?_
    intro a52 hF51; clear hF45
    refine wpList_nil ?_
    have hS53:=hS46.drop.drop.drop.drop.drop
    clear hS46
    refine thenN ?_
    refine wp_ret ?_
    refine thenR ?_
    obtain rfl:=Option.some.inj hm50
    refine ev_ret hF51 [4] (.bool false) rfl rfl rfl ?_
    exact ⟨rfl,hS53⟩
   rw [hc49] at hF45
   have hm55:=ifNot hc49 hm47; clear hm47
   refine ev_condF hF45 rfl rfl ?_
   refine wp_skip ?_
   have hF56:=hF45.keep [1,5]
   clear hF45
   refine thenN (wp_seq (wp_seq (wp_region_lit ?_)))
   refine ev_runs 1 hF56 (l':=[(6,nI 0),(5,nP z15 0),(1,.slice pa1 K1.length ca1)]) (w':=w44) (by kernel_rfl) ?_
   intro a58 hF57; clear hF56
   refine wpList_nil (thenN ?_)
   refine wp_block ?_
   refine wp_loop_ghost (fun kI aI wI=>∃ (s59:HSt) (s60:HSt) (x61:Int),Fr 155 aI [(6,nI x61),(5,nP z15 0),(1,.slice pa1 K1.length ca1)]∧St w0 [] (BlkP z15 95 #[nP z16 0,nP z18 0,.slice p31 L7.length c32,.slice p35 L8.length c36]::HeapP z16 z17 s59::RHeapP z18 z19 z20 z21 z22 s60::RowP (.slice p31 L7.length c32) L7::RowP (.slice p35 L8.length c36) L8::ps) wI∧RingPlays.l20 K1 k L7 L8 kI s59 s60 x61=some r0) k ⟨s5,s6,0,hF57,hS46,hm55⟩ ?_
   rintro k62 a63 w64 ⟨s59,s60,x61,hF65,hS66,hm67⟩
   clear hF57 hS46 hm55
   rcases k62 with _ | k62
   · cases hm67
   have hm68:RingPlays.l20b K1 k L7 L8 (RingPlays.l20 K1 k L7 L8 k62) s59 s60 x61=some r0:=hm67
   clear hm67
   unfold RingPlays.l20b at hm68
   refine wp_seq (wp_seq ?_)
   refine joinQ (fun aI wI=>∃ (y69:Bool),Fr 155 aI [(30,.bool (y69)),(6,nI x61),(5,nP z15 0),(1,.slice pa1 K1.length ca1)]∧St w0 [] (BlkP z15 95 #[nP z16 0,nP z18 0,.slice p31 L7.length c32,.slice p35 L8.length c36]::HeapP z16 z17 s59::RHeapP z18 z19 z20 z21 z22 s60::RowP (.slice p31 L7.length c32) L7::RowP (.slice p35 L8.length c36) L8::ps) wI∧RingPlays.j21 K1 k L7 L8 s59 s60 x61 (RingPlays.l20 K1 k L7 L8 k62) y69=some r0) ?_ ?_
   rotate_left
   · rintro a71 w72 ⟨y69,hF73,hS74,hm75⟩
     clear hF65 hS66 hm68
     unfold RingPlays.j21 at hm75
     refine thenN ?_
     cases hc77:(y69)
     case true =>
      rw [hc77] at hF73
      have hm78:=ifYes hc77 hm75; clear hm75
      refine ev_condT hF73 rfl rfl ?_
      refine wp_skip ?_
      have hF79:=hF73.keep [1,5,6]
      clear hF73
      refine thenN (wp_seq ?_)
      refine wp_block ?_
      refine wp_seq (wp_region_lit ?_)
      refine ev_runs 2 hF79 (l':=[(34,nI x61),(33,.slice pa1 K1.length ca1),(6,nI x61),(5,nP z15 0),(1,.slice pa1 K1.length ca1)]) (w':=w72) (by kernel_rfl) ?_
      intro a81 hF80; clear hF79
      obtain ⟨hc82,hm83⟩:=ifTE hm78; clear hm78
      obtain ⟨b84,o85,rfl⟩:=argKX hA1 hc82
      refine ev_one (nP b84 ((o85+x61.toNat * 3))) w72 hF80 (by kernel_rfl) rfl (by kernel_rfl) (run_idxXO rfl rfl (by kernel_rfl) rfl rfl (inR_spec hc82).1 (inR_spec hc82).2 _) (l':=[(35,nP b84 ((o85+x61.toNat * 3))),(34,nI x61),(33,.slice (some ⟨b84,o85,none⟩) K1.length ca1),(6,nI x61),(5,nP z15 0),(1,.slice (some ⟨b84,o85,none⟩) K1.length ca1)]) (by kernel_rfl) ?_
      intro a87 hF86; clear hF80
      refine ev_one (.agg #[nI ((atX kOp12 K1 x61).kind),nI ((atX kOp12 K1 x61).ch),nI ((atX kOp12 K1 x61).w)]) w72 hF86 (by kernel_rfl) rfl (by kernel_rfl) (run_loadV rfl rfl (run_loadA (cs:=[nI ((atX kOp12 K1 x61).kind),nI ((atX kOp12 K1 x61).ch),nI ((atX kOp12 K1 x61).w)]) rfl rfl (by kernel_rfl) (argAtX (cs:=[nI ((atX kOp12 K1 x61).kind),nI ((atX kOp12 K1 x61).ch),nI ((atX kOp12 K1 x61).w)]) hA1 hS74 hc82 rfl))) (l':=[(36,.agg #[nI ((atX kOp12 K1 x61).kind),nI ((atX kOp12 K1 x61).ch),nI ((atX kOp12 K1 x61).w)]),(35,nP b84 ((o85+x61.toNat * 3))),(34,nI x61),(33,.slice (some ⟨b84,o85,none⟩) K1.length ca1),(6,nI x61),(5,nP z15 0),(1,.slice (some ⟨b84,o85,none⟩) K1.length ca1)]) (by kernel_rfl) ?_
      intro a89 hF88; clear hF86
      refine ev_runs 1 hF88 (l':=[(7,nB w72),(36,.agg #[nI ((atX kOp12 K1 x61).kind),nI ((atX kOp12 K1 x61).ch),nI ((atX kOp12 K1 x61).w)]),(35,nP b84 ((o85+x61.toNat * 3))),(34,nI x61),(33,.slice (some ⟨b84,o85,none⟩) K1.length ca1),(6,nI x61),(5,nP z15 0),(1,.slice (some ⟨b84,o85,none⟩) K1.length ca1)]) (w':=w72.alloc (.cells #[nI 0,nI 0,nI 0] 92)) (by kernel_rfl) ?_
      intro a91 hF90; clear hF88
      have hS93:St w0 [] (BlkP (w72.heap.size) 92 #[nI 0,nI 0,nI 0]::BlkP z15 95 #[nP z16 0,nP z18 0,.slice p31 L7.length c32,.slice p35 L8.length c36]::HeapP z16 z17 s59::RHeapP z18 z19 z20 z21 z22 s60::RowP (.slice p31 L7.length c32) L7::RowP (.slice p35 L8.length c36) L8::ps) (w72.alloc (.cells #[nI 0,nI 0,nI 0] 92)):=St.new hS74 #[nI 0,nI 0,nI 0] 92
      clear hS74
      refine ev_store (.agg #[nI ((atX kOp12 K1 x61).kind),nI ((atX kOp12 K1 x61).ch),nI ((atX kOp12 K1 x61).w)]) #[nI ((atX kOp12 K1 x61).kind),nI ((atX kOp12 K1 x61).ch),nI ((atX kOp12 K1 x61).w)] hF90 (by kernel_rfl) rfl rfl rfl rfl (by kernel_rfl) hS93 (by kernel_rfl) (by kernel_rfl) (by kernel_rfl) (l':=[(7,nB w72),(36,.agg #[nI ((atX kOp12 K1 x61).kind),nI ((atX kOp12 K1 x61).ch),nI ((atX kOp12 K1 x61).w)]),(35,nP b84 ((o85+x61.toNat * 3))),(34,nI x61),(33,.slice (some ⟨b84,o85,none⟩) K1.length ca1),(6,nI x61),(5,nP z15 0),(1,.slice (some ⟨b84,o85,none⟩) K1.length ca1)]) (by kernel_rfl) ?_
      intro w94 a95 hS96 hF97; clear hF90 hS93
      refine wpList_nil ?_
      have hF98:=hF97.keep [1,5,6,7]
      clear hF97
      refine thenN (wp_seq (wp_region_lit ?_))
      refine ev_runs 2 hF98 (l':=[(38,nP (w72.heap.size) 1),(37,nP z15 0),(7,nB w72),(6,nI x61),(5,nP z15 0),(1,.slice (some ⟨b84,o85,none⟩) K1.length ca1)]) (w':=w94) (by kernel_rfl) ?_
      intro a100 hF99; clear hF98
      refine ev_one (nI ((atX kOp12 K1 x61).ch)) w94 hF99 (by kernel_rfl) rfl (by kernel_rfl) (run_loadV rfl rfl (run_loadS rfl rfl (hS96.cell 0 rfl 1 rfl))) (l':=[(39,nI ((atX kOp12 K1 x61).ch)),(38,nP (w72.heap.size) 1),(37,nP z15 0),(7,nB w72),(6,nI x61),(5,nP z15 0),(1,.slice (some ⟨b84,o85,none⟩) K1.length ca1)]) (by kernel_rfl) ?_
      intro a102 hF101; clear hF99
      have hS103:=hS96.pick5.pick5.pick5.pick5.pick5
      clear hS96
      refine ev_call 55 #[nP z15 0,nI ((atX kOp12 K1 x61).ch)] hF101 rfl rfl (by kernel_rfl) rfl (by kernel_rfl) (fun w=>by kernel_rfl) ?_
      obtain ⟨x104,s105,s106,hx107,hm108⟩:=bind3E hm83; clear hm83
      refine (law12_ch.ok hS103 hx107).mono ?_
      rintro _ w109 ⟨rfl,hS111⟩ a110 hF112; clear hF101 hS103
      refine ev_runK 1 hF112 [1,5,6,7,8] (l':=[(8,nI x104),(7,nB w72),(6,nI x61),(5,nP z15 0),(1,.slice (some ⟨b84,o85,none⟩) K1.length ca1)]) (w':=w109) (by kernel_rfl) ?_
      intro a114 hF113; clear hF112
      refine wpList_nil (thenN (wp_seq (wp_region_lit ?_)))
      refine ev_runs 1 hF113 (l':=[(9,.bool true),(8,nI x104),(7,nB w72),(6,nI x61),(5,nP z15 0),(1,.slice (some ⟨b84,o85,none⟩) K1.length ca1)]) (w':=w109) (by kernel_rfl) ?_
      intro a116 hF115; clear hF113
      refine wpList_nil (thenN (wp_seq (wp_seq (wp_region_lit ?_))))
      refine ev_runs 1 hF115 (l':=[(41,nB w72),(9,.bool true),(8,nI x104),(7,nB w72),(6,nI x61),(5,nP z15 0),(1,.slice (some ⟨b84,o85,none⟩) K1.length ca1)]) (w':=w109) (by kernel_rfl) ?_
      intro a118 hF117; clear hF115
      refine ev_one (nI ((atX kOp12 K1 x61).kind)) w109 hF117 (by kernel_rfl) rfl (by kernel_rfl) (run_loadV rfl rfl (run_loadS rfl rfl (hS111.cell 5 rfl 0 rfl))) (l':=[(42,nI ((atX kOp12 K1 x61).kind)),(41,nB w72),(9,.bool true),(8,nI x104),(7,nB w72),(6,nI x61),(5,nP z15 0),(1,.slice (some ⟨b84,o85,none⟩) K1.length ca1)]) (by kernel_rfl) ?_
      intro a120 hF119; clear hF117
      refine wpList_nil ?_
      have hF121:=hF119.keep [1,5,6,7,8,9,42]
      clear hF119
      refine thenN ?_
      refine wp_block ?_
      refine wp_seq (wp_region_lit ?_)
      refine ev_runK 2 hF121 [1,5,6,7,8,9,42,67] (l':=[(67,.bool (((atX kOp12 K1 x61).kind) == 1)),(42,nI ((atX kOp12 K1 x61).kind)),(9,.bool true),(8,nI x104),(7,nB w72),(6,nI x61),(5,nP z15 0),(1,.slice (some ⟨b84,o85,none⟩) K1.length ca1)]) (w':=w109) (by kernel_rfl) ?_
      intro a123 hF122; clear hF121
      refine wpList_nil (thenN ?_)
      refine joinQ (fun aI wI=>∃ (s124:HSt) (s125:HSt) (y126:Bool),Fr 155 aI [(9,.bool (y126)),(8,nI x104),(6,nI x61),(5,nP z15 0),(1,.slice (some ⟨b84,o85,none⟩) K1.length ca1)]∧St w0 [] (RHeapP z18 z19 z20 z21 z22 s124::HeapP z16 z17 s125::BlkP z15 95 #[nP z16 0,nP z18 0,.slice p31 L7.length c32,.slice p35 L8.length c36]::RowP (.slice p31 L7.length c32) L7::RowP (.slice p35 L8.length c36) L8::ps) wI∧RingPlays.j22 k L7 L8 x61 (RingPlays.l20 K1 k L7 L8 k62) x104 s124 s125 y126=some r0) ?_ ?_
      rotate_left
      · rintro a128 w129 ⟨s124,s125,y126,hF130,hS131,hm132⟩
        clear hF122 hS111 hm108
        unfold RingPlays.j22 at hm132
        refine blockN ?_
        refine thenN (wp_seq ?_)
        refine joinQ (fun aI wI=>∃ (s134:HSt) (s135:HSt) (y136:Bool),Fr 155 aI [(154,.bool (y136)),(6,nI x61),(5,nP z15 0),(1,.slice (some ⟨b84,o85,none⟩) K1.length ca1)]∧St w0 [] (BlkP z15 95 #[nP z16 0,nP z18 0,.slice p31 L7.length c32,.slice p35 L8.length c36]::RHeapP z18 z19 z20 z21 z22 s134::HeapP z16 z17 s135::RowP (.slice p31 L7.length c32) L7::RowP (.slice p35 L8.length c36) L8::ps) wI∧RingPlays.j23 x61 (RingPlays.l20 K1 k L7 L8 k62) s134 s135 y136=some r0) ?_ ?_
        rotate_left
        · rintro a138 w139 ⟨s134,s135,y136,hF140,hS141,hm142⟩
          clear hF130 hS131 hm132
          unfold RingPlays.j23 at hm142
          refine thenN ?_
          cases hc144:(y136)
          case true =>
           rw [hc144] at hF140
           have hm145:=ifYes hc144 hm142; clear hm142
           refine ev_condT hF140 rfl rfl ?_
           refine wp_seq (wp_region_lit ?_)
           refine ev_runK 1 hF140 [4] (l':=[(4,.bool false)]) (w':=w139) (by kernel_rfl) ?_
           intro a147 hF146; clear hF140
           refine wpList_nil ?_
           have hS148:=hS141.drop.drop.drop.drop.drop
           clear hS141
           refine thenN ?_
           refine wp_ret ?_
           refine blockR ?_
           refine thenR (thenR ?_)
           refine blockR ?_
           refine thenR ?_
           obtain rfl:=Option.some.inj hm145
           refine ev_ret hF146 [4] (.bool false) rfl rfl rfl ?_
           exact ⟨rfl,hS148⟩
          rw [hc144] at hF140
          have hm150:=ifNot hc144 hm142; clear hm142
          refine ev_condF hF140 rfl rfl ?_
          refine wp_skip ?_
          have hF151:=hF140.keep [1,5,6]
          clear hF140
          refine blockN ?_
          refine thenN (wp_region_lit ?_)
          refine ev_runK 3 hF151 [1,5,6] (l':=[(6,nI (IntKind.i64.wrap (x61+1))),(5,nP z15 0),(1,.slice (some ⟨b84,o85,none⟩) K1.length ca1)]) (w':=w139) (by kernel_rfl) ?_
          intro a153 hF152; clear hF151
          refine wpList_nil ?_
          have hS154:=hS141.pick4.pick4.pick3.pick4.pick4
          clear hS141
          exact thenN ⟨k62,Nat.lt_succ_self _,s135,s134,IntKind.i64.wrap (x61+1),hF152,hS154,hm150⟩
        · skip
          have hS155:=hS131.pick2
          clear hS131
          have hS156:=hS155.drew; clear hS155
          refine any_start (fun wS=>∃ qs,St w0 [] (BlkP z15 95 #[nP z16 0,nP z18 0,.slice p31 L7.length c32,.slice p35 L8.length c36]::qs) wS) 23 #[false,false,false,false,false,false,false,false,false,false,false,false,false,false,false,false,false,false,false,false,false,false,false] (by kernel_rfl) (by kernel_rfl) (by kernel_rfl) ?_
          refine any_many 3 [(0,some (.bool (y126))),(1,some (.bool (!(y126)))),(2,some (.bool (!(y126))))] [1,5,6,8,134,135,136,137,138,139,140,141,142,143,144,145,146,147,148,149,150,151,152,153,154] #[true,true,true,false,false,false,false,false,false,false,false,false,false,false,false,false,false,false,false,false,false,false,false] (by rfl) hF130 (by kernel_rfl) (by kernel_rfl) (by exact ⟨fun wS hw=>by kernel_rfl,fun wS hw=>by kernel_rfl,fun wS hw=>by kernel_rfl,trivial⟩) (fun _ _ _ _ _ h=>h) ⟨_,hS156⟩ (l':=[(134,.bool (!(y126))),(8,nI x104),(6,nI x61),(5,nP z15 0),(1,.slice (some ⟨b84,o85,none⟩) K1.length ca1)]) (by kernel_rfl) ?_
          intro a158 hF157; clear hF130
          cases hc159:(!(y126))
          case true =>
           rw [hc159] at hF157
           have hm160:=ifYes hc159 hm132; clear hm132
           refine any_many 20 [(3,none),(4,none),(5,none),(6,some (.bool true)),(7,some (.bool true)),(8,none),(9,none),(10,none),(11,none),(12,none),(13,none),(14,none),(15,none),(16,none),(17,none),(18,none),(19,none),(20,none),(21,none),(22,some (.bool true))] [1,5,6,154] #[true,true,true,true,true,true,true,true,true,true,true,true,true,true,true,true,true,true,true,true,true,true,true] (by rfl) hF157 (by kernel_rfl) (by kernel_rfl) (by exact (And.intro trivial (And.intro trivial (And.intro trivial (And.intro (fun wS hw=>by kernel_rfl) (And.intro (fun wS hw=>by kernel_rfl) (And.intro trivial (And.intro trivial (And.intro trivial (And.intro trivial (And.intro trivial (And.intro trivial (And.intro trivial (And.intro trivial (And.intro trivial (And.intro trivial (And.intro trivial (And.intro trivial (And.intro trivial (And.intro trivial (And.intro (fun wS hw=>by kernel_rfl) trivial))))))))))))))))))))) (fun _ _ _ _ _ h=>h) ⟨_,hS156⟩ (l':=[(154,.bool true),(6,nI x61),(5,nP z15 0),(1,.slice (some ⟨b84,o85,none⟩) K1.length ca1)]) (by kernel_rfl) ?_
           intro a162 hF161; clear hF157
           refine any_done (by kernel_rfl) ?_
           exact thenN ⟨s124,s125,true,hF161,hS156,hm160⟩
          rw [hc159] at hF157
          have hm163:=ifNot hc159 hm132; clear hm132
          refine any_many 1 [(3,some (nP z15 0))] [1,5,6,8,134,135,136,137,138,139,140,141,142,143,144,145,146,147,148,149,150,151,152,153,154] #[true,true,true,true,false,false,false,false,false,false,false,false,false,false,false,false,false,false,false,false,false,false,false] (by rfl) hF157 (by kernel_rfl) (by kernel_rfl) (by exact ⟨fun wS hw=>by kernel_rfl,trivial⟩) (fun _ _ _ _ _ h=>h) ⟨_,hS156⟩ (l':=[(135,nP z15 0),(134,.bool false),(8,nI x104),(6,nI x61),(5,nP z15 0),(1,.slice (some ⟨b84,o85,none⟩) K1.length ca1)]) (by kernel_rfl) ?_
          intro a165 hF164; clear hF157
          have hS166:=hS156.pick4.pick4.pick3.pick4.pick4
          clear hS156
          refine any_call 4 #[true,true,true,true,true,false,false,false,false,false,false,false,false,false,false,false,false,false,false,false,false,false,false] 63 #[nP z15 0] hF164 rfl (by kernel_rfl) rfl rfl (by kernel_rfl) rfl (by kernel_rfl) (fun w=>by kernel_rfl) (by kernel_rfl) ?_
          obtain ⟨y167,s168,s169,hx170,hm171⟩:=bind3E hm163; clear hm163
          refine (law12_alike.ok hS166 hx170).mono ?_
          rintro _ w172 ⟨rfl,hS174⟩; clear hS166
          refine ⟨⟨_,hS174⟩,?_⟩
          intro a173 hF175; clear hF164
          refine any_many 3 [(5,some (.bool (!(y167)))),(6,some (.bool (!(y167)))),(7,some (.bool (!(y167))))] [1,5,6,8,139,140,141,142,143,144,145,146,147,148,149,150,151,152,153,154] #[true,true,true,true,true,true,true,true,false,false,false,false,false,false,false,false,false,false,false,false,false,false,false] (by rfl) hF175 (by kernel_rfl) (by kernel_rfl) (by exact ⟨fun wS hw=>by kernel_rfl,fun wS hw=>by kernel_rfl,fun wS hw=>by kernel_rfl,trivial⟩) (fun _ _ _ _ _ h=>h) ⟨_,hS174⟩ (l':=[(139,.bool (!(y167))),(8,nI x104),(6,nI x61),(5,nP z15 0),(1,.slice (some ⟨b84,o85,none⟩) K1.length ca1)]) (by kernel_rfl) ?_
          intro a177 hF176; clear hF175
          cases hc178:(!(y167))
          case true =>
           rw [hc178] at hF176
           have hm179:=ifYes hc178 hm171; clear hm171
           refine any_many 15 [(8,none),(9,none),(10,none),(11,none),(12,none),(13,none),(14,none),(15,none),(16,none),(17,none),(18,none),(19,none),(20,none),(21,none),(22,some (.bool true))] [1,5,6,154] #[true,true,true,true,true,true,true,true,true,true,true,true,true,true,true,true,true,true,true,true,true,true,true] (by rfl) hF176 (by kernel_rfl) (by kernel_rfl) (by exact (And.intro trivial (And.intro trivial (And.intro trivial (And.intro trivial (And.intro trivial (And.intro trivial (And.intro trivial (And.intro trivial (And.intro trivial (And.intro trivial (And.intro trivial (And.intro trivial (And.intro trivial (And.intro trivial (And.intro (fun wS hw=>by kernel_rfl) trivial)))))))))))))))) (fun _ _ _ _ _ h=>h) ⟨_,hS174⟩ (l':=[(154,.bool true),(6,nI x61),(5,nP z15 0),(1,.slice (some ⟨b84,o85,none⟩) K1.length ca1)]) (by kernel_rfl) ?_
           intro a181 hF180; clear hF176
           refine any_done (by kernel_rfl) ?_
           have hS182:=hS174.pick4.pick4.pick3.pick4.pick4
           clear hS174
           exact thenN ⟨s169,s168,true,hF180,hS182,hm179⟩
          rw [hc178] at hF176
          have hm183:=ifNot hc178 hm171; clear hm171
          refine any_many 10 [(8,some (nP z15 0)),(9,some (nP z15 0)),(10,some (nP z15 0)),(11,some (nP z16 0)),(12,some (nI x104)),(14,some (nP z15 0)),(15,some (nP z15 0)),(16,some (nP z15 1)),(17,some (nP z18 0)),(18,some (nI x104))] [1,5,6,139,143,144,145,149,150,151,152,153,154] #[true,true,true,true,true,true,true,true,true,true,true,true,true,false,true,true,true,true,true,false,false,false,false] (by rfl) hF176 (by kernel_rfl) (by kernel_rfl) (by exact ⟨fun wS hw=>by kernel_rfl,fun wS hw=>by kernel_rfl,fun wS hw=>by kernel_rfl,fun wS hw=>hw.elim fun qs hw=>run_loadV rfl rfl (run_loadS rfl rfl (hw.cell 0 rfl 0 rfl)),fun wS hw=>by kernel_rfl,fun wS hw=>by kernel_rfl,fun wS hw=>by kernel_rfl,fun wS hw=>by kernel_rfl,fun wS hw=>hw.elim fun qs hw=>run_loadV rfl rfl (run_loadS rfl rfl (hw.cell 0 rfl 1 rfl)),fun wS hw=>by kernel_rfl,trivial⟩) (fun _ _ _ _ _ h=>h) ⟨_,hS174⟩ (l':=[(150,nI x104),(149,nP z18 0),(144,nI x104),(143,nP z16 0),(139,.bool false),(6,nI x61),(5,nP z15 0),(1,.slice (some ⟨b84,o85,none⟩) K1.length ca1)]) (by kernel_rfl) ?_
          intro a185 hF184; clear hF176
          have hS186:=hS174.pick1
          clear hS174
          refine any_call 13 #[true,true,true,true,true,true,true,true,true,true,true,true,true,true,true,true,true,true,true,false,false,false,false] 64 #[nP z16 0,nI x104] hF184 rfl (by kernel_rfl) rfl rfl (by kernel_rfl) rfl (by kernel_rfl) (fun w=>by kernel_rfl) (by kernel_rfl) ?_
          obtain ⟨L187,s188,hx189,hm190⟩:=bind2E hm183; clear hm183
          refine (ring_All.ok hS186 hx189).mono ?_
          rintro _ w191 ⟨z195,rfl,hS193⟩; clear hS186
          obtain ⟨hl200,p197,c198,rfl,hp199⟩:=St.shape hS193 1 rfl
          refine ⟨⟨_,hS193.pick2⟩,?_⟩
          intro a192 hF194; clear hF184
          have hS201:=hS193.pick3
          clear hS193
          refine any_call 19 #[true,true,true,true,true,true,true,true,true,true,true,true,true,true,true,true,true,true,true,true,false,false,false] 65 #[nP z18 0,nI x104] hF194 rfl (by kernel_rfl) rfl rfl (by kernel_rfl) rfl (by kernel_rfl) (fun w=>by kernel_rfl) (by kernel_rfl) ?_
          obtain ⟨L202,s203,hx204,hm205⟩:=bind2E hm190; clear hm190
          refine (ref11_AllRing.ok hS201 hx204).mono ?_
          rintro _ w206 ⟨z210,rfl,hS208⟩; clear hS201
          obtain ⟨hl215,p212,c213,rfl,hp214⟩:=St.shape hS208 1 rfl
          refine ⟨⟨_,hS208.pick4⟩,?_⟩
          intro a207 hF209; clear hF194
          have hS216:=hS208.pick1.pick3
          clear hS208
          refine any_call 20 #[true,true,true,true,true,true,true,true,true,true,true,true,true,true,true,true,true,true,true,true,true,false,false] 51 #[.slice p197 L187.length c198,.slice p212 L202.length c213] hF209 rfl (by kernel_rfl) rfl rfl (by kernel_rfl) rfl (by kernel_rfl) (fun w=>by kernel_rfl) (by kernel_rfl) ?_
          obtain ⟨y217,hx218,hm219⟩:=bind1E hm205; clear hm205
          refine (help_Plain.ok hS216 hx218).mono ?_
          rintro _ w220 ⟨rfl,hS222⟩; clear hS216
          refine ⟨⟨_,hS222.pick4⟩,?_⟩
          intro a221 hF223; clear hF209
          refine any_many 2 [(21,some (.bool (!(y217)))),(22,some (.bool (!(y217))))] [1,5,6,154] #[true,true,true,true,true,true,true,true,true,true,true,true,true,true,true,true,true,true,true,true,true,true,true] (by rfl) hF223 (by kernel_rfl) (by kernel_rfl) (by exact ⟨fun wS hw=>by kernel_rfl,fun wS hw=>by kernel_rfl,trivial⟩) (fun _ _ _ _ _ h=>h) ⟨_,hS222.pick4⟩ (l':=[(154,.bool (!(y217))),(6,nI x61),(5,nP z15 0),(1,.slice (some ⟨b84,o85,none⟩) K1.length ca1)]) (by kernel_rfl) ?_
          intro a225 hF224; clear hF223
          refine any_done (by kernel_rfl) ?_
          have hS226:=hS222.drop.drop
          clear hS222
          have hS227:=hS226.pick4.pick4.pick3.pick3.pick4
          clear hS226
          exact thenN ⟨s203,s188,!(y217),hF224,hS227,hm219⟩
      · skip
        cases hc228:(((atX kOp12 K1 x61).kind) == 1)
        case true =>
         rw [hc228] at hF122
         have hm229:=ifYes hc228 hm108; clear hm108
         refine ev_condT hF122 rfl rfl ?_
         refine wp_seq (wp_region_lit ?_)
         refine ev_runs 3 hF122 (l':=[(72,nP z15 0),(71,nP z15 0),(70,nP z15 0),(67,.bool true),(42,nI ((atX kOp12 K1 x61).kind)),(9,.bool true),(8,nI x104),(7,nB w72),(6,nI x61),(5,nP z15 0),(1,.slice (some ⟨b84,o85,none⟩) K1.length ca1)]) (w':=w109) (by kernel_rfl) ?_
         intro a231 hF230; clear hF122
         refine ev_one (nP z16 0) w109 hF230 (by kernel_rfl) rfl (by kernel_rfl) (run_loadV rfl rfl (run_loadS rfl rfl (hS111.cell 0 rfl 0 rfl))) (l':=[(73,nP z16 0),(72,nP z15 0),(71,nP z15 0),(70,nP z15 0),(67,.bool true),(42,nI ((atX kOp12 K1 x61).kind)),(9,.bool true),(8,nI x104),(7,nB w72),(6,nI x61),(5,nP z15 0),(1,.slice (some ⟨b84,o85,none⟩) K1.length ca1)]) (by kernel_rfl) ?_
         intro a233 hF232; clear hF230
         refine ev_runs 1 hF232 (l':=[(74,nI x104),(73,nP z16 0),(72,nP z15 0),(71,nP z15 0),(70,nP z15 0),(67,.bool true),(42,nI ((atX kOp12 K1 x61).kind)),(9,.bool true),(8,nI x104),(7,nB w72),(6,nI x61),(5,nP z15 0),(1,.slice (some ⟨b84,o85,none⟩) K1.length ca1)]) (w':=w109) (by kernel_rfl) ?_
         intro a235 hF234; clear hF232
         have hS236:=hS111.pick1
         clear hS111
         refine ev_call 56 #[nP z16 0,nI x104] hF234 rfl rfl (by kernel_rfl) rfl (by kernel_rfl) (fun w=>by kernel_rfl) ?_
         obtain ⟨x237,x238,s239,hx240,hm241⟩:=bind3E hm229; clear hm229
         refine (ring_Take.ok hS236 hx240).mono ?_
         rintro _ w242 ⟨rfl,hS244⟩ a243 hF245; clear hF234 hS236
         refine ev_runK 5 hF245 [1,5,6,8,10,11] (l':=[(11,nI x238),(10,nI x237),(8,nI x104),(6,nI x61),(5,nP z15 0),(1,.slice (some ⟨b84,o85,none⟩) K1.length ca1)]) (w':=w242) (by kernel_rfl) ?_
         intro a247 hF246; clear hF245
         refine wpList_nil ?_
         have hS248:=hS244.pick5.drop
         clear hS244
         refine thenN (wp_seq (wp_region_lit ?_))
         refine ev_runs 3 hF246 (l':=[(81,nP z15 1),(80,nP z15 0),(79,nP z15 0),(11,nI x238),(10,nI x237),(8,nI x104),(6,nI x61),(5,nP z15 0),(1,.slice (some ⟨b84,o85,none⟩) K1.length ca1)]) (w':=w242) (by kernel_rfl) ?_
         intro a250 hF249; clear hF246
         refine ev_one (nP z18 0) w242 hF249 (by kernel_rfl) rfl (by kernel_rfl) (run_loadV rfl rfl (run_loadS rfl rfl (hS248.cell 1 rfl 1 rfl))) (l':=[(82,nP z18 0),(81,nP z15 1),(80,nP z15 0),(79,nP z15 0),(11,nI x238),(10,nI x237),(8,nI x104),(6,nI x61),(5,nP z15 0),(1,.slice (some ⟨b84,o85,none⟩) K1.length ca1)]) (by kernel_rfl) ?_
         intro a252 hF251; clear hF249
         refine ev_runs 1 hF251 (l':=[(83,nI x104),(82,nP z18 0),(81,nP z15 1),(80,nP z15 0),(79,nP z15 0),(11,nI x238),(10,nI x237),(8,nI x104),(6,nI x61),(5,nP z15 0),(1,.slice (some ⟨b84,o85,none⟩) K1.length ca1)]) (w':=w242) (by kernel_rfl) ?_
         intro a254 hF253; clear hF251
         have hS255:=hS248.pick2
         clear hS248
         refine ev_call 57 #[nP z18 0,nI x104] hF253 rfl rfl (by kernel_rfl) rfl (by kernel_rfl) (fun w=>by kernel_rfl) ?_
         obtain ⟨x256,x257,s258,hx259,hm260⟩:=bind3E hm241; clear hm241
         refine (ref11_TakeRing.ok hS255 hx259).mono ?_
         rintro _ w261 ⟨rfl,hS263⟩ a262 hF264; clear hF253 hS255
         refine ev_runK 5 hF264 [1,5,6,8,10,11,12,13] (l':=[(13,nI x257),(12,nI x256),(11,nI x238),(10,nI x237),(8,nI x104),(6,nI x61),(5,nP z15 0),(1,.slice (some ⟨b84,o85,none⟩) K1.length ca1)]) (w':=w261) (by kernel_rfl) ?_
         intro a266 hF265; clear hF264
         refine wpList_nil (thenN ?_)
         refine joinQ (fun aI wI=>∃ (y267:Bool),Fr 155 aI [(9,.bool (y267)),(8,nI x104),(6,nI x61),(5,nP z15 0),(1,.slice (some ⟨b84,o85,none⟩) K1.length ca1)]∧St w0 [] (RHeapP z18 z19 z20 z21 z22 s258::HeapP z16 z17 s239::BlkP z15 95 #[nP z16 0,nP z18 0,.slice p31 L7.length c32,.slice p35 L8.length c36]::RowP (.slice p31 L7.length c32) L7::RowP (.slice p35 L8.length c36) L8::ps) wI∧RingPlays.j24 k L7 L8 x61 (RingPlays.l20 K1 k L7 L8 k62) x104 s239 s258 y267=some r0) ?_ ?_
         rotate_left
         · rintro a269 w270 ⟨y267,hF271,hS272,hm273⟩
           clear hF265 hS263 hm260
           unfold RingPlays.j24 at hm273
           exact thenN ⟨s258,s239,y267,hF271,hS272,hm273⟩
         · skip
           refine wp_region_lit ?_
           refine ev_runs 4 hF265 (l':=[(90,.bool (x237 == x256)),(89,.bool (x237 == x256)),(88,nI x256),(87,nI x237),(13,nI x257),(12,nI x256),(11,nI x238),(10,nI x237),(8,nI x104),(6,nI x61),(5,nP z15 0),(1,.slice (some ⟨b84,o85,none⟩) K1.length ca1)]) (w':=w261) (by kernel_rfl) ?_
           intro a276 hF275; clear hF265
           cases hc277:(x237 == x256)
           case true =>
            rw [hc277] at hF275
            have hm278:=ifYes hc277 hm260; clear hm260
            refine ev_runK 5 hF275 [1,5,6,8,9] (l':=[(9,.bool (x238 == x257)),(8,nI x104),(6,nI x61),(5,nP z15 0),(1,.slice (some ⟨b84,o85,none⟩) K1.length ca1)]) (w':=w261) (by kernel_rfl) ?_
            intro a280 hF279; clear hF275
            refine wpList_nil ?_
            exact thenN ⟨x238 == x257,hF279,hS263,hm278⟩
           rw [hc277] at hF275
           have hm281:=ifNot hc277 hm260; clear hm260
           refine ev_runK 5 hF275 [1,5,6,8,9] (l':=[(9,.bool false),(8,nI x104),(6,nI x61),(5,nP z15 0),(1,.slice (some ⟨b84,o85,none⟩) K1.length ca1)]) (w':=w261) (by kernel_rfl) ?_
           intro a283 hF282; clear hF275
           refine wpList_nil ?_
           exact thenN ⟨false,hF282,hS263,hm281⟩
        rw [hc228] at hF122
        have hm284:=ifNot hc228 hm108; clear hm108
        refine ev_condF hF122 rfl rfl ?_
        refine wp_seq (wp_region_lit ?_)
        refine ev_runK 2 hF122 [1,5,6,7,8,9,42,95] (l':=[(95,.bool (((atX kOp12 K1 x61).kind) == 2)),(42,nI ((atX kOp12 K1 x61).kind)),(9,.bool true),(8,nI x104),(7,nB w72),(6,nI x61),(5,nP z15 0),(1,.slice (some ⟨b84,o85,none⟩) K1.length ca1)]) (w':=w109) (by kernel_rfl) ?_
        intro a286 hF285; clear hF122
        refine wpList_nil (thenN ?_)
        refine joinQ (fun aI wI=>∃ (s287:HSt) (s288:HSt) (y289:Bool),Fr 155 aI [(9,.bool (y289)),(8,nI x104),(6,nI x61),(5,nP z15 0),(1,.slice (some ⟨b84,o85,none⟩) K1.length ca1)]∧St w0 [] (RHeapP z18 z19 z20 z21 z22 s287::HeapP z16 z17 s288::BlkP z15 95 #[nP z16 0,nP z18 0,.slice p31 L7.length c32,.slice p35 L8.length c36]::RowP (.slice p31 L7.length c32) L7::RowP (.slice p35 L8.length c36) L8::ps) wI∧RingPlays.j25 k L7 L8 x61 (RingPlays.l20 K1 k L7 L8 k62) x104 s287 s288 y289=some r0) ?_ ?_
        rotate_left
        · rintro a291 w292 ⟨s287,s288,y289,hF293,hS294,hm295⟩
          clear hF285 hS111 hm284
          unfold RingPlays.j25 at hm295
          exact thenN ⟨s287,s288,y289,hF293,hS294,hm295⟩
        · skip
          cases hc297:(((atX kOp12 K1 x61).kind) == 2)
          case true =>
           rw [hc297] at hF285
           have hm298:=ifYes hc297 hm284; clear hm284
           refine ev_condT hF285 rfl rfl ?_
           refine joinQ (fun aI wI=>∃ (s299:HSt) (s300:HSt) (y301:Bool),Fr 155 aI [(9,.bool (y301)),(8,nI x104),(6,nI x61),(5,nP z15 0),(1,.slice (some ⟨b84,o85,none⟩) K1.length ca1)]∧St w0 [] (RHeapP z18 z19 z20 z21 z22 s299::HeapP z16 z17 s300::BlkP z15 95 #[nP z16 0,nP z18 0,.slice p31 L7.length c32,.slice p35 L8.length c36]::RowP (.slice p31 L7.length c32) L7::RowP (.slice p35 L8.length c36) L8::ps) wI∧RingPlays.j26 k L7 L8 x61 (RingPlays.l20 K1 k L7 L8 k62) x104 s299 s300 y301=some r0) ?_ ?_
           rotate_left
           · rintro a303 w304 ⟨s299,s300,y301,hF305,hS306,hm307⟩
             clear hF285 hS111 hm298
             unfold RingPlays.j26 at hm307
             exact thenN ⟨s299,s300,y301,hF305,hS306,hm307⟩
           · skip
             have hS309:=hS111.drew; clear hS111
             refine any_start (fun wS=>∃ qs,St w0 [] (BlkP z15 95 #[nP z16 0,nP z18 0,.slice p31 L7.length c32,.slice p35 L8.length c36]::qs) wS) 16 #[false,false,false,false,false,false,false,false,false,false,false,false,false,false,false,false] (by kernel_rfl) (by kernel_rfl) (by kernel_rfl) ?_
             refine any_many 10 [(0,some (nP z15 0)),(1,some (nP z15 0)),(2,some (nP z15 0)),(3,some (nP z16 0)),(4,some (nI x104)),(7,some (nP z15 0)),(8,some (nP z15 0)),(9,some (nP z15 1)),(10,some (nP z18 0)),(11,some (nI x104))] [1,5,6,8,9,100,101,102,103,107,108,109,110,111] #[true,true,true,true,true,false,false,true,true,true,true,true,false,false,false,false] (by rfl) hF285 (by kernel_rfl) (by kernel_rfl) (by exact ⟨fun wS hw=>by kernel_rfl,fun wS hw=>by kernel_rfl,fun wS hw=>by kernel_rfl,fun wS hw=>hw.elim fun qs hw=>run_loadV rfl rfl (run_loadS rfl rfl (hw.cell 0 rfl 0 rfl)),fun wS hw=>by kernel_rfl,fun wS hw=>by kernel_rfl,fun wS hw=>by kernel_rfl,fun wS hw=>by kernel_rfl,fun wS hw=>hw.elim fun qs hw=>run_loadV rfl rfl (run_loadS rfl rfl (hw.cell 0 rfl 1 rfl)),fun wS hw=>by kernel_rfl,trivial⟩) (fun _ _ _ _ _ h=>h) ⟨_,hS309⟩ (l':=[(108,nI x104),(107,nP z18 0),(101,nI x104),(100,nP z16 0),(9,.bool true),(8,nI x104),(6,nI x61),(5,nP z15 0),(1,.slice (some ⟨b84,o85,none⟩) K1.length ca1)]) (by kernel_rfl) ?_
             intro a311 hF310; clear hF285
             refine any_two 5 12 (by kernel_rfl) ?_ ?_
             · skip
               have hS312:St w0 [] (RowP (.slice (some ⟨(w109.drew).heap.size,0,none⟩) 1 1) [x104]::BlkP z15 95 #[nP z16 0,nP z18 0,.slice p31 L7.length c32,.slice p35 L8.length c36]::HeapP z16 z17 s105::RHeapP z18 z19 z20 z21 z22 s106::RowP (.slice p31 L7.length c32) L7::RowP (.slice p35 L8.length c36) L8::BlkP (w72.heap.size) 92 #[nI ((atX kOp12 K1 x61).kind),nI ((atX kOp12 K1 x61).ch),nI ((atX kOp12 K1 x61).w)]::ps) ((w109.drew).alloc (.cells #[nI x104] 3)):=St.lit hS309 [x104] (by unfold maxLen; simp)
               clear hS309
               refine op_step 5 #[true,true,true,true,true,true,false,true,true,true,true,true,false,false,false,false] (.slice (some ⟨(w109.drew).heap.size,0,none⟩) 1 1) ((w109.drew).alloc (.cells #[nI x104] 3)) hF310 rfl (by kernel_rfl) rfl (by kernel_rfl) (by kernel_rfl) (l':=[(102,.slice (some ⟨(w109.drew).heap.size,0,none⟩) 1 1),(108,nI x104),(107,nP z18 0),(101,nI x104),(100,nP z16 0),(9,.bool true),(8,nI x104),(6,nI x61),(5,nP z15 0),(1,.slice (some ⟨b84,o85,none⟩) K1.length ca1)]) (by kernel_rfl) ⟨_,hS312.pick1⟩ (by kernel_rfl) ?_
               intro a314 hF313; clear hF310
               refine any_two 6 12 (by kernel_rfl) ?_ ?_
               · skip
                 have hS315:=hS312.pick2
                 clear hS312
                 refine op_call 6 #[true,true,true,true,true,true,true,true,true,true,true,true,false,false,false,false] 45 #[nP z16 0,.slice (some ⟨(w109.drew).heap.size,0,none⟩) 1 1] hF313 rfl rfl rfl (by kernel_rfl) rfl (by kernel_rfl) (fun w=>by kernel_rfl) (by kernel_rfl) ?_
                 obtain ⟨x316,s317,hx318,hm319⟩:=bind2E hm298; clear hm298
                 refine (p_Begin hS315 hx318).mono ?_
                 rintro _ w320 ⟨rfl,hS322⟩; clear hS315
                 refine ⟨⟨_,hS322.pick2⟩,?_⟩
                 intro a321 hF323; clear hF313
                 refine any_one 12 (by kernel_rfl) ?_
                 have hS324:St w0 [] (RowP (.slice (some ⟨w320.heap.size,0,none⟩) 1 1) [x104]::HeapP z16 z17 s317::RowP (.slice (some ⟨(w109.drew).heap.size,0,none⟩) 1 1) [x104]::BlkP z15 95 #[nP z16 0,nP z18 0,.slice p31 L7.length c32,.slice p35 L8.length c36]::RHeapP z18 z19 z20 z21 z22 s106::RowP (.slice p31 L7.length c32) L7::RowP (.slice p35 L8.length c36) L8::BlkP (w72.heap.size) 92 #[nI ((atX kOp12 K1 x61).kind),nI ((atX kOp12 K1 x61).ch),nI ((atX kOp12 K1 x61).w)]::ps) (w320.alloc (.cells #[nI x104] 3)):=St.lit hS322 [x104] (by unfold maxLen; simp)
                 clear hS322
                 refine op_step 12 #[true,true,true,true,true,true,true,true,true,true,true,true,true,false,false,false] (.slice (some ⟨w320.heap.size,0,none⟩) 1 1) (w320.alloc (.cells #[nI x104] 3)) hF323 rfl (by kernel_rfl) rfl (by kernel_rfl) (by kernel_rfl) (l':=[(109,.slice (some ⟨w320.heap.size,0,none⟩) 1 1),(103,nI x316),(102,.slice (some ⟨(w109.drew).heap.size,0,none⟩) 1 1),(108,nI x104),(107,nP z18 0),(101,nI x104),(100,nP z16 0),(9,.bool true),(8,nI x104),(6,nI x61),(5,nP z15 0),(1,.slice (some ⟨b84,o85,none⟩) K1.length ca1)]) (by kernel_rfl) ⟨_,hS324.pick3⟩ (by kernel_rfl) ?_
                 intro a326 hF325; clear hF323
                 have hS327:=hS324.pick4
                 clear hS324
                 refine any_call 13 #[true,true,true,true,true,true,true,true,true,true,true,true,true,true,false,false] 58 #[nP z18 0,.slice (some ⟨w320.heap.size,0,none⟩) 1 1] hF325 rfl (by kernel_rfl) rfl rfl (by kernel_rfl) rfl (by kernel_rfl) (fun w=>by kernel_rfl) (by kernel_rfl) ?_
                 obtain ⟨x328,s329,hx330,hm331⟩:=bind2E hm319; clear hm319
                 refine (q_Begin hS327 hx330).mono ?_
                 rintro _ w332 ⟨rfl,hS334⟩; clear hS327
                 refine ⟨⟨_,hS334.pick4⟩,?_⟩
                 intro a333 hF335; clear hF325
                 refine any_many 2 [(14,some (.bool (x316 == x328))),(15,some (.bool (x316 == x328)))] [1,5,6,8,9] #[true,true,true,true,true,true,true,true,true,true,true,true,true,true,true,true] (by rfl) hF335 (by kernel_rfl) (by kernel_rfl) (by exact ⟨fun wS hw=>by kernel_rfl,fun wS hw=>by kernel_rfl,trivial⟩) (fun _ _ _ _ _ h=>h) ⟨_,hS334.pick4⟩ (l':=[(9,.bool (x316 == x328)),(8,nI x104),(6,nI x61),(5,nP z15 0),(1,.slice (some ⟨b84,o85,none⟩) K1.length ca1)]) (by kernel_rfl) ?_
                 intro a337 hF336; clear hF335
                 refine any_done (by kernel_rfl) ?_
                 have hS338:=hS334.pick1.drop.pick2.drop.pick5.drop
                 clear hS334
                 exact thenN ⟨s329,s317,x316 == x328,hF336,hS338,hm331⟩
               · skip
                 have hS339:St w0 [] (RowP (.slice (some ⟨((w109.drew).alloc (.cells #[nI x104] 3)).heap.size,0,none⟩) 1 1) [x104]::RowP (.slice (some ⟨(w109.drew).heap.size,0,none⟩) 1 1) [x104]::BlkP z15 95 #[nP z16 0,nP z18 0,.slice p31 L7.length c32,.slice p35 L8.length c36]::HeapP z16 z17 s105::RHeapP z18 z19 z20 z21 z22 s106::RowP (.slice p31 L7.length c32) L7::RowP (.slice p35 L8.length c36) L8::BlkP (w72.heap.size) 92 #[nI ((atX kOp12 K1 x61).kind),nI ((atX kOp12 K1 x61).ch),nI ((atX kOp12 K1 x61).w)]::ps) (((w109.drew).alloc (.cells #[nI x104] 3)).alloc (.cells #[nI x104] 3)):=St.lit hS312 [x104] (by unfold maxLen; simp)
                 clear hS312
                 refine op_step 12 #[true,true,true,true,true,true,false,true,true,true,true,true,true,false,false,false] (.slice (some ⟨((w109.drew).alloc (.cells #[nI x104] 3)).heap.size,0,none⟩) 1 1) (((w109.drew).alloc (.cells #[nI x104] 3)).alloc (.cells #[nI x104] 3)) hF313 rfl (by kernel_rfl) rfl (by kernel_rfl) (by kernel_rfl) (l':=[(109,.slice (some ⟨((w109.drew).alloc (.cells #[nI x104] 3)).heap.size,0,none⟩) 1 1),(102,.slice (some ⟨(w109.drew).heap.size,0,none⟩) 1 1),(108,nI x104),(107,nP z18 0),(101,nI x104),(100,nP z16 0),(9,.bool true),(8,nI x104),(6,nI x61),(5,nP z15 0),(1,.slice (some ⟨b84,o85,none⟩) K1.length ca1)]) (by kernel_rfl) ⟨_,hS339.pick2⟩ (by kernel_rfl) ?_
                 intro a341 hF340; clear hF313
                 have hS342:=hS339.pick1.pick3
                 clear hS339
                 refine any_call 6 #[true,true,true,true,true,true,true,true,true,true,true,true,true,false,false,false] 45 #[nP z16 0,.slice (some ⟨(w109.drew).heap.size,0,none⟩) 1 1] hF340 rfl (by kernel_rfl) rfl rfl (by kernel_rfl) rfl (by kernel_rfl) (fun w=>by kernel_rfl) (by kernel_rfl) ?_
                 obtain ⟨x343,s344,hx345,hm346⟩:=bind2E hm298; clear hm298
                 refine (p_Begin hS342 hx345).mono ?_
                 rintro _ w347 ⟨rfl,hS349⟩; clear hS342
                 refine ⟨⟨_,hS349.pick3⟩,?_⟩
                 intro a348 hF350; clear hF340
                 have hS351:=hS349.pick2.pick4
                 clear hS349
                 refine any_call 13 #[true,true,true,true,true,true,true,true,true,true,true,true,true,true,false,false] 58 #[nP z18 0,.slice (some ⟨((w109.drew).alloc (.cells #[nI x104] 3)).heap.size,0,none⟩) 1 1] hF350 rfl (by kernel_rfl) rfl rfl (by kernel_rfl) rfl (by kernel_rfl) (fun w=>by kernel_rfl) (by kernel_rfl) ?_
                 obtain ⟨x352,s353,hx354,hm355⟩:=bind2E hm346; clear hm346
                 refine (q_Begin hS351 hx354).mono ?_
                 rintro _ w356 ⟨rfl,hS358⟩; clear hS351
                 refine ⟨⟨_,hS358.pick4⟩,?_⟩
                 intro a357 hF359; clear hF350
                 refine any_many 2 [(14,some (.bool (x343 == x352))),(15,some (.bool (x343 == x352)))] [1,5,6,8,9] #[true,true,true,true,true,true,true,true,true,true,true,true,true,true,true,true] (by rfl) hF359 (by kernel_rfl) (by kernel_rfl) (by exact ⟨fun wS hw=>by kernel_rfl,fun wS hw=>by kernel_rfl,trivial⟩) (fun _ _ _ _ _ h=>h) ⟨_,hS358.pick4⟩ (l':=[(9,.bool (x343 == x352)),(8,nI x104),(6,nI x61),(5,nP z15 0),(1,.slice (some ⟨b84,o85,none⟩) K1.length ca1)]) (by kernel_rfl) ?_
                 intro a361 hF360; clear hF359
                 refine any_done (by kernel_rfl) ?_
                 have hS362:=hS358.pick1.drop.pick2.drop.pick5.drop
                 clear hS358
                 exact thenN ⟨s353,s344,x343 == x352,hF360,hS362,hm355⟩
             · skip
               have hS363:St w0 [] (RowP (.slice (some ⟨(w109.drew).heap.size,0,none⟩) 1 1) [x104]::BlkP z15 95 #[nP z16 0,nP z18 0,.slice p31 L7.length c32,.slice p35 L8.length c36]::HeapP z16 z17 s105::RHeapP z18 z19 z20 z21 z22 s106::RowP (.slice p31 L7.length c32) L7::RowP (.slice p35 L8.length c36) L8::BlkP (w72.heap.size) 92 #[nI ((atX kOp12 K1 x61).kind),nI ((atX kOp12 K1 x61).ch),nI ((atX kOp12 K1 x61).w)]::ps) ((w109.drew).alloc (.cells #[nI x104] 3)):=St.lit hS309 [x104] (by unfold maxLen; simp)
               clear hS309
               refine op_step 12 #[true,true,true,true,true,false,false,true,true,true,true,true,true,false,false,false] (.slice (some ⟨(w109.drew).heap.size,0,none⟩) 1 1) ((w109.drew).alloc (.cells #[nI x104] 3)) hF310 rfl (by kernel_rfl) rfl (by kernel_rfl) (by kernel_rfl) (l':=[(109,.slice (some ⟨(w109.drew).heap.size,0,none⟩) 1 1),(108,nI x104),(107,nP z18 0),(101,nI x104),(100,nP z16 0),(9,.bool true),(8,nI x104),(6,nI x61),(5,nP z15 0),(1,.slice (some ⟨b84,o85,none⟩) K1.length ca1)]) (by kernel_rfl) ⟨_,hS363.pick1⟩ (by kernel_rfl) ?_
               intro a365 hF364; clear hF310
               refine any_one 5 (by kernel_rfl) ?_
               have hS366:St w0 [] (RowP (.slice (some ⟨((w109.drew).alloc (.cells #[nI x104] 3)).heap.size,0,none⟩) 1 1) [x104]::RowP (.slice (some ⟨(w109.drew).heap.size,0,none⟩) 1 1) [x104]::BlkP z15 95 #[nP z16 0,nP z18 0,.slice p31 L7.length c32,.slice p35 L8.length c36]::HeapP z16 z17 s105::RHeapP z18 z19 z20 z21 z22 s106::RowP (.slice p31 L7.length c32) L7::RowP (.slice p35 L8.length c36) L8::BlkP (w72.heap.size) 92 #[nI ((atX kOp12 K1 x61).kind),nI ((atX kOp12 K1 x61).ch),nI ((atX kOp12 K1 x61).w)]::ps) (((w109.drew).alloc (.cells #[nI x104] 3)).alloc (.cells #[nI x104] 3)):=St.lit hS363 [x104] (by unfold maxLen; simp)
               clear hS363
               refine op_step 5 #[true,true,true,true,true,true,false,true,true,true,true,true,true,false,false,false] (.slice (some ⟨((w109.drew).alloc (.cells #[nI x104] 3)).heap.size,0,none⟩) 1 1) (((w109.drew).alloc (.cells #[nI x104] 3)).alloc (.cells #[nI x104] 3)) hF364 rfl (by kernel_rfl) rfl (by kernel_rfl) (by kernel_rfl) (l':=[(102,.slice (some ⟨((w109.drew).alloc (.cells #[nI x104] 3)).heap.size,0,none⟩) 1 1),(109,.slice (some ⟨(w109.drew).heap.size,0,none⟩) 1 1),(108,nI x104),(107,nP z18 0),(101,nI x104),(100,nP z16 0),(9,.bool true),(8,nI x104),(6,nI x61),(5,nP z15 0),(1,.slice (some ⟨b84,o85,none⟩) K1.length ca1)]) (by kernel_rfl) ⟨_,hS366.pick2⟩ (by kernel_rfl) ?_
               intro a368 hF367; clear hF364
               have hS369:=hS366.pick3
               clear hS366
               refine any_call 6 #[true,true,true,true,true,true,true,true,true,true,true,true,true,false,false,false] 45 #[nP z16 0,.slice (some ⟨((w109.drew).alloc (.cells #[nI x104] 3)).heap.size,0,none⟩) 1 1] hF367 rfl (by kernel_rfl) rfl rfl (by kernel_rfl) rfl (by kernel_rfl) (fun w=>by kernel_rfl) (by kernel_rfl) ?_
               obtain ⟨x370,s371,hx372,hm373⟩:=bind2E hm298; clear hm298
               refine (p_Begin hS369 hx372).mono ?_
               rintro _ w374 ⟨rfl,hS376⟩; clear hS369
               refine ⟨⟨_,hS376.pick3⟩,?_⟩
               intro a375 hF377; clear hF367
               have hS378:=hS376.pick2.pick4
               clear hS376
               refine any_call 13 #[true,true,true,true,true,true,true,true,true,true,true,true,true,true,false,false] 58 #[nP z18 0,.slice (some ⟨(w109.drew).heap.size,0,none⟩) 1 1] hF377 rfl (by kernel_rfl) rfl rfl (by kernel_rfl) rfl (by kernel_rfl) (fun w=>by kernel_rfl) (by kernel_rfl) ?_
               obtain ⟨x379,s380,hx381,hm382⟩:=bind2E hm373; clear hm373
               refine (q_Begin hS378 hx381).mono ?_
               rintro _ w383 ⟨rfl,hS385⟩; clear hS378
               refine ⟨⟨_,hS385.pick4⟩,?_⟩
               intro a384 hF386; clear hF377
               refine any_many 2 [(14,some (.bool (x370 == x379))),(15,some (.bool (x370 == x379)))] [1,5,6,8,9] #[true,true,true,true,true,true,true,true,true,true,true,true,true,true,true,true] (by rfl) hF386 (by kernel_rfl) (by kernel_rfl) (by exact ⟨fun wS hw=>by kernel_rfl,fun wS hw=>by kernel_rfl,trivial⟩) (fun _ _ _ _ _ h=>h) ⟨_,hS385.pick4⟩ (l':=[(9,.bool (x370 == x379)),(8,nI x104),(6,nI x61),(5,nP z15 0),(1,.slice (some ⟨b84,o85,none⟩) K1.length ca1)]) (by kernel_rfl) ?_
               intro a388 hF387; clear hF386
               refine any_done (by kernel_rfl) ?_
               have hS389:=hS385.pick1.drop.pick2.drop.pick5.drop
               clear hS385
               exact thenN ⟨s380,s371,x370 == x379,hF387,hS389,hm382⟩
          rw [hc297] at hF285
          have hm390:=ifNot hc297 hm284; clear hm284
          refine ev_condF hF285 rfl rfl ?_
          refine wp_seq (wp_region_lit ?_)
          refine ev_runK 2 hF285 [1,5,6,7,8,9,112] (l':=[(112,.bool (((atX kOp12 K1 x61).kind) == 3)),(9,.bool true),(8,nI x104),(7,nB w72),(6,nI x61),(5,nP z15 0),(1,.slice (some ⟨b84,o85,none⟩) K1.length ca1)]) (w':=w109) (by kernel_rfl) ?_
          intro a392 hF391; clear hF285
          refine wpList_nil (thenN ?_)
          refine joinQ (fun aI wI=>∃ (s393:HSt) (s394:HSt) (y395:Bool),Fr 155 aI [(9,.bool (y395)),(8,nI x104),(6,nI x61),(5,nP z15 0),(1,.slice (some ⟨b84,o85,none⟩) K1.length ca1)]∧St w0 [] (BlkP z15 95 #[nP z16 0,nP z18 0,.slice p31 L7.length c32,.slice p35 L8.length c36]::HeapP z16 z17 s393::RHeapP z18 z19 z20 z21 z22 s394::RowP (.slice p31 L7.length c32) L7::RowP (.slice p35 L8.length c36) L8::ps) wI∧RingPlays.j27 k L7 L8 x61 (RingPlays.l20 K1 k L7 L8 k62) x104 s393 s394 y395=some r0) ?_ ?_
          rotate_left
          · rintro a397 w398 ⟨s393,s394,y395,hF399,hS400,hm401⟩
            clear hF391 hS111 hm390
            unfold RingPlays.j27 at hm401
            have hS403:=hS400.pick4.pick4.pick2.pick3.pick4
            clear hS400
            exact thenN ⟨s394,s393,y395,hF399,hS403,hm401⟩
          · skip
            cases hc404:(((atX kOp12 K1 x61).kind) == 3)
            case true =>
             rw [hc404] at hF391
             have hm405:=ifYes hc404 hm390; clear hm390
             refine ev_condT hF391 rfl rfl ?_
             refine wp_seq (wp_region_lit ?_)
             refine ev_runs 3 hF391 (l':=[(116,nP z15 1),(115,nP z15 0),(114,nP z15 0),(112,.bool true),(9,.bool true),(8,nI x104),(7,nB w72),(6,nI x61),(5,nP z15 0),(1,.slice (some ⟨b84,o85,none⟩) K1.length ca1)]) (w':=w109) (by kernel_rfl) ?_
             intro a407 hF406; clear hF391
             refine ev_one (nP z18 0) w109 hF406 (by kernel_rfl) rfl (by kernel_rfl) (run_loadV rfl rfl (run_loadS rfl rfl (hS111.cell 0 rfl 1 rfl))) (l':=[(117,nP z18 0),(116,nP z15 1),(115,nP z15 0),(114,nP z15 0),(112,.bool true),(9,.bool true),(8,nI x104),(7,nB w72),(6,nI x61),(5,nP z15 0),(1,.slice (some ⟨b84,o85,none⟩) K1.length ca1)]) (by kernel_rfl) ?_
             intro a409 hF408; clear hF406
             refine ev_runs 2 hF408 (l':=[(119,nP z18 3),(118,nP z18 0),(117,nP z18 0),(116,nP z15 1),(115,nP z15 0),(114,nP z15 0),(112,.bool true),(9,.bool true),(8,nI x104),(7,nB w72),(6,nI x61),(5,nP z15 0),(1,.slice (some ⟨b84,o85,none⟩) K1.length ca1)]) (w':=w109) (by kernel_rfl) ?_
             intro a411 hF410; clear hF408
             refine ev_one (nI (s106.ph)) w109 hF410 (by kernel_rfl) rfl (by kernel_rfl) (run_loadV rfl rfl (run_loadS rfl rfl (St.rhsee (k:=2) hS111 rfl).2.2.1)) (l':=[(120,nI (s106.ph)),(119,nP z18 3),(118,nP z18 0),(117,nP z18 0),(116,nP z15 1),(115,nP z15 0),(114,nP z15 0),(112,.bool true),(9,.bool true),(8,nI x104),(7,nB w72),(6,nI x61),(5,nP z15 0),(1,.slice (some ⟨b84,o85,none⟩) K1.length ca1)]) (by kernel_rfl) ?_
             intro a413 hF412; clear hF410
             refine ev_runK 1 hF412 [1,5,6,8,9,121] (l':=[(121,.bool (s106.ph == 1)),(9,.bool true),(8,nI x104),(6,nI x61),(5,nP z15 0),(1,.slice (some ⟨b84,o85,none⟩) K1.length ca1)]) (w':=w109) (by kernel_rfl) ?_
             intro a415 hF414; clear hF412
             refine wpList_nil ?_
             have hS416:=hS111.pick5.drop
             clear hS111
             refine thenN ?_
             refine joinQ (fun aI wI=>∃ (s417:HSt) (s418:HSt),Fr 155 aI [(9,.bool true),(8,nI x104),(6,nI x61),(5,nP z15 0),(1,.slice (some ⟨b84,o85,none⟩) K1.length ca1)]∧St w0 [] (BlkP z15 95 #[nP z16 0,nP z18 0,.slice p31 L7.length c32,.slice p35 L8.length c36]::HeapP z16 z17 s417::RHeapP z18 z19 z20 z21 z22 s418::RowP (.slice p31 L7.length c32) L7::RowP (.slice p35 L8.length c36) L8::ps) wI∧RingPlays.j28 k L7 L8 x61 (RingPlays.l20 K1 k L7 L8 k62) x104 s417 s418=some r0) ?_ ?_
             rotate_left
             · rintro a420 w421 ⟨s417,s418,hF422,hS423,hm424⟩
               clear hF414 hS416 hm405
               unfold RingPlays.j28 at hm424
               exact thenN ⟨s417,s418,true,hF422,hS423,hm424⟩
             · skip
               cases hc426:(s106.ph == 1)
               case true =>
                rw [hc426] at hF414
                have hm427:=ifYes hc426 hm405; clear hm405
                refine ev_condT hF414 rfl rfl ?_
                refine wp_seq (wp_region_lit ?_)
                refine ev_runs 3 hF414 (l':=[(124,nP z15 0),(123,nP z15 0),(122,nP z15 0),(121,.bool true),(9,.bool true),(8,nI x104),(6,nI x61),(5,nP z15 0),(1,.slice (some ⟨b84,o85,none⟩) K1.length ca1)]) (w':=w109) (by kernel_rfl) ?_
                intro a429 hF428; clear hF414
                refine ev_one (nP z16 0) w109 hF428 (by kernel_rfl) rfl (by kernel_rfl) (run_loadV rfl rfl (run_loadS rfl rfl (hS416.cell 0 rfl 0 rfl))) (l':=[(125,nP z16 0),(124,nP z15 0),(123,nP z15 0),(122,nP z15 0),(121,.bool true),(9,.bool true),(8,nI x104),(6,nI x61),(5,nP z15 0),(1,.slice (some ⟨b84,o85,none⟩) K1.length ca1)]) (by kernel_rfl) ?_
                intro a431 hF430; clear hF428
                have hS432:=hS416.pick1
                clear hS416
                refine ev_call 46 #[nP z16 0] hF430 rfl rfl (by kernel_rfl) rfl (by kernel_rfl) (fun w=>by kernel_rfl) ?_
                obtain ⟨L433,s434,hx435,hm436⟩:=bind2E hm427; clear hm427
                refine (p_Step hS432 hx435).mono ?_
                rintro _ w437 ⟨z441,rfl,hS439⟩ a438 hF440; clear hF430 hS432
                obtain ⟨hl446,p443,c444,rfl,hp445⟩:=St.shapeG (k:=1) hS439 rfl
                refine wpList_nil ?_
                have hF447:=hF440.keep [1,5,6,8,9]
                clear hF440
                have hS448:=hS439.pick1.drop
                clear hS439
                refine thenN (wp_region_lit ?_)
                refine ev_runs 3 hF447 (l':=[(129,nP z15 1),(128,nP z15 0),(127,nP z15 0),(9,.bool true),(8,nI x104),(6,nI x61),(5,nP z15 0),(1,.slice (some ⟨b84,o85,none⟩) K1.length ca1)]) (w':=w437) (by kernel_rfl) ?_
                intro a450 hF449; clear hF447
                refine ev_one (nP z18 0) w437 hF449 (by kernel_rfl) rfl (by kernel_rfl) (run_loadV rfl rfl (run_loadS rfl rfl (hS448.cell 1 rfl 1 rfl))) (l':=[(130,nP z18 0),(129,nP z15 1),(128,nP z15 0),(127,nP z15 0),(9,.bool true),(8,nI x104),(6,nI x61),(5,nP z15 0),(1,.slice (some ⟨b84,o85,none⟩) K1.length ca1)]) (by kernel_rfl) ?_
                intro a452 hF451; clear hF449
                have hS453:=hS448.pick2
                clear hS448
                refine ev_call 59 #[nP z18 0] hF451 rfl rfl (by kernel_rfl) rfl (by kernel_rfl) (fun w=>by kernel_rfl) ?_
                obtain ⟨L454,s455,hx456,hm457⟩:=bind2E hm436; clear hm436
                refine (ref06_Step.ok hS453 hx456).mono ?_
                rintro _ w458 ⟨z462,rfl,hS460⟩ a459 hF461; clear hF451 hS453
                obtain ⟨hl467,p464,c465,rfl,hp466⟩:=St.shapeG (k:=1) hS460 rfl
                refine wpList_nil ?_
                have hF468:=hF461.keep [1,5,6,8,9]
                clear hF461
                have hS469:=hS460.pick1.drop
                clear hS460
                have hS470:=hS469.pick4.pick4.pick2.pick3.pick4
                clear hS469
                exact thenN ⟨s434,s455,hF468,hS470,hm457⟩
               rw [hc426] at hF414
               have hm471:=ifNot hc426 hm405; clear hm405
               refine ev_condF hF414 rfl rfl ?_
               refine wp_skip ?_
               have hF472:=hF414.keep [1,5,6,8,9]
               clear hF414
               exact thenN ⟨s105,s106,hF472,hS416,hm471⟩
            rw [hc404] at hF391
            have hm473:=ifNot hc404 hm390; clear hm390
            refine ev_condF hF391 rfl rfl ?_
            refine wp_seq (wp_region_lit ?_)
            refine ev_runs 1 hF391 (l':=[(43,nP (w72.heap.size) 2),(112,.bool false),(9,.bool true),(8,nI x104),(7,nB w72),(6,nI x61),(5,nP z15 0),(1,.slice (some ⟨b84,o85,none⟩) K1.length ca1)]) (w':=w109) (by kernel_rfl) ?_
            intro a475 hF474; clear hF391
            refine ev_one (nI ((atX kOp12 K1 x61).w)) w109 hF474 (by kernel_rfl) rfl (by kernel_rfl) (run_loadV rfl rfl (run_loadS rfl rfl (hS111.cell 5 rfl 2 rfl))) (l':=[(44,nI ((atX kOp12 K1 x61).w)),(43,nP (w72.heap.size) 2),(112,.bool false),(9,.bool true),(8,nI x104),(7,nB w72),(6,nI x61),(5,nP z15 0),(1,.slice (some ⟨b84,o85,none⟩) K1.length ca1)]) (by kernel_rfl) ?_
            intro a477 hF476; clear hF474
            refine ev_runK 1 hF476 [1,5,6,8,14] (l':=[(14,nI ((atX kOp12 K1 x61).w)),(8,nI x104),(6,nI x61),(5,nP z15 0),(1,.slice (some ⟨b84,o85,none⟩) K1.length ca1)]) (w':=w109) (by kernel_rfl) ?_
            intro a479 hF478; clear hF476
            refine wpList_nil ?_
            have hS480:=hS111.pick5.drop
            clear hS111
            refine thenN (wp_seq (wp_seq (wp_region_lit ?_)))
            refine ev_runK 3 hF478 [1,5,6,8,14,47] (l':=[(47,.bool ((Int.tmod ((atX kOp12 K1 x61).w) 3) == 0)),(14,nI ((atX kOp12 K1 x61).w)),(8,nI x104),(6,nI x61),(5,nP z15 0),(1,.slice (some ⟨b84,o85,none⟩) K1.length ca1)]) (w':=w109) (by kernel_rfl) ?_
            intro a482 hF481; clear hF478
            refine wpList_nil (thenN ?_)
            refine joinQ (fun aI wI=>∃ (s483:HSt) (s484:HSt) (x485:Int),Fr 155 aI [(14,nI x485),(8,nI x104),(6,nI x61),(5,nP z15 0),(1,.slice (some ⟨b84,o85,none⟩) K1.length ca1)]∧St w0 [] (BlkP z15 95 #[nP z16 0,nP z18 0,.slice p31 L7.length c32,.slice p35 L8.length c36]::HeapP z16 z17 s483::RHeapP z18 z19 z20 z21 z22 s484::RowP (.slice p31 L7.length c32) L7::RowP (.slice p35 L8.length c36) L8::ps) wI∧RingPlays.j29 k L7 L8 x61 (RingPlays.l20 K1 k L7 L8 k62) x104 s483 s484 x485=some r0) ?_ ?_
            rotate_left
            · rintro a487 w488 ⟨s483,s484,x485,hF489,hS490,hm491⟩
              clear hF481 hS480 hm473
              unfold RingPlays.j29 at hm491
              refine thenN ?_
              have hS493:=hS490.drew; clear hS490
              refine any_start (fun wS=>∃ qs,St w0 [] (BlkP z15 95 #[nP z16 0,nP z18 0,.slice p31 L7.length c32,.slice p35 L8.length c36]::qs) wS) 16 #[false,false,false,false,false,false,false,false,false,false,false,false,false,false,false,false] (by kernel_rfl) (by kernel_rfl) (by kernel_rfl) ?_
              refine any_many 12 [(0,some (nP z15 0)),(1,some (nP z15 0)),(2,some (nP z15 0)),(3,some (nP z16 0)),(4,some (nI x104)),(5,some (nI x485)),(7,some (nP z15 0)),(8,some (nP z15 0)),(9,some (nP z15 1)),(10,some (nP z18 0)),(11,some (nI x104)),(12,some (nI x485))] [1,5,6,8,9,55,56,57,58,62,63,64,65,66] #[true,true,true,true,true,true,false,true,true,true,true,true,true,false,false,false] (by rfl) hF489 (by kernel_rfl) (by kernel_rfl) (by exact ⟨fun wS hw=>by kernel_rfl,fun wS hw=>by kernel_rfl,fun wS hw=>by kernel_rfl,fun wS hw=>hw.elim fun qs hw=>run_loadV rfl rfl (run_loadS rfl rfl (hw.cell 0 rfl 0 rfl)),fun wS hw=>by kernel_rfl,fun wS hw=>by kernel_rfl,fun wS hw=>by kernel_rfl,fun wS hw=>by kernel_rfl,fun wS hw=>by kernel_rfl,fun wS hw=>hw.elim fun qs hw=>run_loadV rfl rfl (run_loadS rfl rfl (hw.cell 0 rfl 1 rfl)),fun wS hw=>by kernel_rfl,fun wS hw=>by kernel_rfl,trivial⟩) (fun _ _ _ _ _ h=>h) ⟨_,hS493⟩ (l':=[(64,nI x485),(63,nI x104),(62,nP z18 0),(57,nI x485),(56,nI x104),(55,nP z16 0),(8,nI x104),(6,nI x61),(5,nP z15 0),(1,.slice (some ⟨b84,o85,none⟩) K1.length ca1)]) (by kernel_rfl) ?_
              intro a495 hF494; clear hF489
              have hS496:=hS493.pick1
              clear hS493
              refine any_call 6 #[true,true,true,true,true,true,true,true,true,true,true,true,true,false,false,false] 61 #[nP z16 0,nI x104,nI x485] hF494 rfl (by kernel_rfl) rfl rfl (by kernel_rfl) rfl (by kernel_rfl) (fun w=>by kernel_rfl) (by kernel_rfl) ?_
              obtain ⟨x497,s498,hx499,hm500⟩:=bind2E hm491; clear hm491
              refine (ring_Put.ok hS496 hx499).mono ?_
              rintro _ w501 ⟨rfl,hS503⟩; clear hS496
              refine ⟨⟨_,hS503.pick1⟩,?_⟩
              intro a502 hF504; clear hF494
              have hS505:=hS503.pick2
              clear hS503
              refine any_call 13 #[true,true,true,true,true,true,true,true,true,true,true,true,true,true,false,false] 62 #[nP z18 0,nI x104,nI x485] hF504 rfl (by kernel_rfl) rfl rfl (by kernel_rfl) rfl (by kernel_rfl) (fun w=>by kernel_rfl) (by kernel_rfl) ?_
              obtain ⟨x506,s507,hx508,hm509⟩:=bind2E hm500; clear hm500
              refine (ref11_PutRing.ok hS505 hx508).mono ?_
              rintro _ w510 ⟨rfl,hS512⟩; clear hS505
              refine ⟨⟨_,hS512.pick2⟩,?_⟩
              intro a511 hF513; clear hF504
              refine any_many 2 [(14,some (.bool (x497 == x506))),(15,some (.bool (x497 == x506)))] [1,5,6,8,9] #[true,true,true,true,true,true,true,true,true,true,true,true,true,true,true,true] (by rfl) hF513 (by kernel_rfl) (by kernel_rfl) (by exact ⟨fun wS hw=>by kernel_rfl,fun wS hw=>by kernel_rfl,trivial⟩) (fun _ _ _ _ _ h=>h) ⟨_,hS512.pick2⟩ (l':=[(9,.bool (x497 == x506)),(8,nI x104),(6,nI x61),(5,nP z15 0),(1,.slice (some ⟨b84,o85,none⟩) K1.length ca1)]) (by kernel_rfl) ?_
              intro a515 hF514; clear hF513
              refine any_done (by kernel_rfl) ?_
              have hS516:=hS512.pick4.pick4.pick2.pick3.pick4
              clear hS512
              exact thenN ⟨s498,s507,x497 == x506,hF514,hS516,hm509⟩
            · skip
              cases hc517:((Int.tmod ((atX kOp12 K1 x61).w) 3) == 0)
              case true =>
               rw [hc517] at hF481
               have hm518:=ifYes hc517 hm473; clear hm473
               refine ev_condT hF481 rfl rfl ?_
               refine wp_region_lit ?_
               refine ev_runs 1 hF481 (l':=[(48,nP z15 0),(47,.bool true),(14,nI ((atX kOp12 K1 x61).w)),(8,nI x104),(6,nI x61),(5,nP z15 0),(1,.slice (some ⟨b84,o85,none⟩) K1.length ca1)]) (w':=w109) (by kernel_rfl) ?_
               intro a520 hF519; clear hF481
               refine ev_call 60 #[nP z15 0,nI 0] hF519 rfl rfl (by kernel_rfl) rfl (by kernel_rfl) (fun w=>by kernel_rfl) ?_
               obtain ⟨x521,s522,s523,hx524,hm525⟩:=bind3E hm518; clear hm518
               refine (law12_gor.ok hS480 hx524).mono ?_
               rintro _ w526 ⟨rfl,hS528⟩ a527 hF529; clear hF519 hS480
               refine ev_runK 3 hF529 [1,5,6,8,14] (l':=[(14,nI (IntKind.i64.wrap ((IntKind.i64.wrap (2 * x521))+1))),(8,nI x104),(6,nI x61),(5,nP z15 0),(1,.slice (some ⟨b84,o85,none⟩) K1.length ca1)]) (w':=w526) (by kernel_rfl) ?_
               intro a531 hF530; clear hF529
               refine wpList_nil ?_
               exact thenN ⟨s522,s523,IntKind.i64.wrap ((IntKind.i64.wrap (2 * x521))+1),hF530,hS528,hm525⟩
              rw [hc517] at hF481
              have hm532:=ifNot hc517 hm473; clear hm473
              refine ev_condF hF481 rfl rfl ?_
              refine wp_skip ?_
              have hF533:=hF481.keep [1,5,6,8,14]
              clear hF481
              exact thenN ⟨s105,s106,(atX kOp12 K1 x61).w,hF533,hS480,hm532⟩
     rw [hc77] at hF73
     have hm534:=ifNot hc77 hm75; clear hm75
     refine ev_condF hF73 rfl rfl ?_
     refine wp_exit ?_
     refine thenE ?_
     refine thenE ?_
     refine blockE ?_
     refine thenN (wp_seq (wp_region_lit ?_))
     refine ev_runK 1 hF73 [4] (l':=[(4,.bool true)]) (w':=w72) (by kernel_rfl) ?_
     intro a536 hF535; clear hF73
     refine wpList_nil ?_
     have hS537:=hS74.drop.drop.drop.drop.drop
     clear hS74
     refine thenN ?_
     refine wp_ret ?_
     obtain rfl:=Option.some.inj hm534
     refine ev_ret hF535 [4] (.bool true) rfl rfl rfl ?_
     exact ⟨rfl,hS537⟩
   · skip
     refine wp_region_lit ?_
     refine ev_runs 5 hF65 (l':=[(27,.bool (decide (x61<(K1.length:Int)))),(26,.bool (decide (x61<(K1.length:Int)))),(25,nI ((K1.length:Int))),(24,.slice pa1 K1.length ca1),(23,nI x61),(6,nI x61),(5,nP z15 0),(1,.slice pa1 K1.length ca1)]) (w':=w64) (by kernel_rfl) ?_
     intro a540 hF539; clear hF65
     cases hc541:(decide (x61<(K1.length:Int)))
     case true =>
      rw [hc541] at hF539
      have hm542:=ifYes hc541 hm68; clear hm68
      refine ev_runK 3 hF539 [1,5,6,30] (l':=[(30,.bool (decide (x61<80))),(6,nI x61),(5,nP z15 0),(1,.slice pa1 K1.length ca1)]) (w':=w64) (by kernel_rfl) ?_
      intro a544 hF543; clear hF539
      refine wpList_nil ?_
      exact thenN ⟨decide (x61<80),hF543,hS66,hm542⟩
     rw [hc541] at hF539
     have hm545:=ifNot hc541 hm68; clear hm68
     refine ev_runK 3 hF539 [1,5,6,30] (l':=[(30,.bool false),(6,nI x61),(5,nP z15 0),(1,.slice pa1 K1.length ca1)]) (w':=w64) (by kernel_rfl) ?_
     intro a547 hF546; clear hF539
     refine wpList_nil ?_
     exact thenN ⟨false,hF546,hS66,hm545⟩
 · skip
   refine wp_region_lit ?_
   refine ev_call 54 #[] hF39 rfl rfl (by kernel_rfl) rfl (by kernel_rfl) (fun w=>by kernel_rfl) ?_
   obtain ⟨y548,hx549,hm550⟩:=bind1E hm10; clear hm10
   refine (law12_awake.ok hS30 hx549).mono ?_
   rintro _ w551 ⟨rfl,hS553⟩ a552 hF554; clear hF39 hS30
   refine ev_runs 2 hF554 (l':=[(19,.bool (!(y548))),(18,.bool (!(y548))),(17,.bool (y548)),(5,nP z15 0),(1,.slice pa1 K1.length ca1)]) (w':=w551) (by kernel_rfl) ?_
   intro a556 hF555; clear hF554
   cases hc557:(!(y548))
   case true =>
    rw [hc557] at hF555
    have hm558:=ifYes hc557 hm550; clear hm550
    refine ev_runK 3 hF555 [1,5,22] (l':=[(22,.bool true),(5,nP z15 0),(1,.slice pa1 K1.length ca1)]) (w':=w551) (by kernel_rfl) ?_
    intro a560 hF559; clear hF555
    refine wpList_nil ?_
    exact thenN ⟨true,hF559,hS553,hm558⟩
   rw [hc557] at hF555
   have hm561:=ifNot hc557 hm550; clear hm550
   refine ev_runK 3 hF555 [1,5,22] (l':=[(22,.bool false),(5,nP z15 0),(1,.slice pa1 K1.length ca1)]) (w':=w551) (by kernel_rfl) ?_
   intro a563 hF562; clear hF555
   refine wpList_nil ?_
   exact thenN ⟨false,hF562,hS553,hm561⟩
end Go.Proofs.YtffnjpapggidlaaGreat
