/- GLive Reached -/
import Derived.Test.YtinagphkkegmnaaKGHelp
import Derived.Test.YtinagphkkegmnaaKPrimV
import Derived.Test.YtinagphkkegmnaaKRowO3
import Derived.Test.YtinagphkkegmnaaKEvMap
import Derived.Deep.LoopGhost
import Derived.KernelRfl
namespace Go.Proofs.Ytinagphkkegmnaa
open Go.RowKit
set_option maxRecDepth 100000
set_option maxHeartbeats 40000000
set_option linter.unusedVariables false
def live_look.l1b (s0:HSt) (i1:Int) (rec42:List Int→Int→Option (Option (List Int)×HSt)) (L37:List Int) (x39:Int):Option (Option (List Int)×HSt):=(if (decide (x39<(aLen s0.a.c i1))) then bind2 (pLoad i1 x39 s0) fun x60 x61=>bind1 (pushM L37 x60) fun L73=>rec42 L73 (IntKind.i64.wrap (x39+1)) else some ((some L37),s0))
def live_look.l1 (s0:HSt) (i1:Int):Nat→List Int→Int→Option (Option (List Int)×HSt)
  | 0=>fun _ _=>none
  | kI+1=>live_look.l1b s0 i1 (live_look.l1 s0 i1 kI)
def live_look.m (k:Nat) (s0:HSt) (i1:Int):Option (Option (List Int)×HSt):=(if ((aKind s0.a.c i1) == 0) then some (none,s0) else live_look.l1 s0 i1 k [] 0)
theorem live_look.ok {w0 w:World} {F0:List Nat} {ps:List Piece} {k:Nat} {b0 ab0:Nat} {s0:HSt} {i1:Int} {r0:Option (List Int)} {t0:HSt} (hS:St w0 F0 (HeapP b0 ab0 s0::ps) w) (hm:live_look.m k s0 i1=some (r0,t0)) :
    Calls Try.prog 65 #[nP ab0 0,nI i1] w fun e w'=>∃ vr0,e=.returned (oObV 95 vr0 r0)∧St w0 F0 (HeapP b0 ab0 t0::RowP vr0 (r0.getD [])::ps) w':=by
 refine ev_enterL 34 [nP ab0 0,nI i1] Try.func65 rfl rfl (by simp) ?_
 intro a hF
 have hF0:Fr 34 a [(0,nP ab0 0),(1,nI i1)]:=hF; clear hF
 unfold live_look.m at hm
 refine wp_seq (wp_region_lit ?_)
 refine ev_runK 1 hF0 [0,1] (l':=[(0,nP ab0 0),(1,nI i1)]) (w':=w) (by kernel_rfl) ?_
 intro a2 hF1; clear hF0
 refine wpList_nil (thenN (wp_seq (wp_seq (wp_region_lit ?_))))
 refine ev_runs 2 hF1 (l':=[(10,nI i1),(9,nP ab0 0),(0,nP ab0 0),(1,nI i1)]) (w':=w) (by kernel_rfl) ?_
 intro a4 hF3; clear hF1
 refine ev_call 21 #[nP ab0 0,nI i1] hF3 rfl rfl (by kernel_rfl) rfl (by kernel_rfl) (fun w=>by kernel_rfl) ?_
 refine (p_Kind hS).mono ?_
 rintro _ w5 ⟨rfl,hS7⟩ a6 hF8; clear hF3 hS
 refine ev_runK 1 hF8 [0,1,12] (l':=[(12,.bool ((aKind s0.a.c i1) == 0)),(0,nP ab0 0),(1,nI i1)]) (w':=w5) (by kernel_rfl) ?_
 intro a10 hF9; clear hF8
 refine wpList_nil (thenN ?_)
 cases hc11:((aKind s0.a.c i1) == 0)
 case true =>
  rw [hc11] at hF9
  have hm12:=ifYes hc11 hm; clear hm
  refine ev_condT hF9 rfl rfl ?_
  refine wp_seq (wp_region_lit ?_)
  refine ev_runK 1 hF9 [4] (l':=[(4,.nilIface)]) (w':=w5) (by kernel_rfl) ?_
  intro a14 hF13; clear hF9
  refine wpList_nil (thenN ?_)
  refine wp_ret ?_
  refine thenR ?_
  have hS16:St w0 F0 (RowP (.slice none 0 0) []::HeapP b0 ab0 s0::ps) w5:=St.nil hS7
  clear hS7
  have hS17:=hS16.pick1
  clear hS16
  simp only [Option.some.injEq,Prod.mk.injEq] at hm12
  obtain ⟨rfl,rfl⟩:=hm12
  refine ev_ret hF13 [4] (.nilIface) rfl rfl rfl ?_
  exact ⟨_,rfl,hS17⟩
 rw [hc11] at hF9
 have hm20:=ifNot hc11 hm; clear hm
 refine ev_condF hF9 rfl rfl ?_
 refine wp_skip ?_
 have hF21:=hF9.keep [0,1]
 clear hF9
 refine thenN (wp_seq (wp_region_lit ?_))
 refine ev_runs 1 hF21 (l':=[(13,.slice (some ⟨w5.heap.size,0,none⟩) 0 0),(0,nP ab0 0),(1,nI i1)]) (w':=w5.alloc (.cells #[] 3)) (by kernel_rfl) ?_
 intro a23 hF22; clear hF21
 have hS25:St w0 F0 (RowP (.slice (some ⟨w5.heap.size,0,none⟩) 0 0) []::HeapP b0 ab0 s0::ps) (w5.alloc (.cells #[] 3)):=St.lit hS7 [] (by unfold maxLen; simp)
 clear hS7
 refine ev_runK 1 hF22 [0,1,5] (l':=[(5,.slice (some ⟨w5.heap.size,0,none⟩) 0 0),(0,nP ab0 0),(1,nI i1)]) (w':=w5.alloc (.cells #[] 3)) (by kernel_rfl) ?_
 intro a27 hF26; clear hF22
 refine wpList_nil (thenN (wp_seq (wp_seq (wp_region_lit ?_))))
 refine ev_runs 2 hF26 (l':=[(15,nI i1),(14,nP ab0 0),(5,.slice (some ⟨w5.heap.size,0,none⟩) 0 0),(0,nP ab0 0),(1,nI i1)]) (w':=w5.alloc (.cells #[] 3)) (by kernel_rfl) ?_
 intro a29 hF28; clear hF26
 have hS30:=hS25.pick1
 clear hS25
 refine ev_call 23 #[nP ab0 0,nI i1] hF28 rfl rfl (by kernel_rfl) rfl (by kernel_rfl) (fun w=>by kernel_rfl) ?_
 refine (p_Len hS30).mono ?_
 rintro _ w31 ⟨rfl,hS33⟩ a32 hF34; clear hF28 hS30
 refine ev_runK 1 hF34 [0,1,5,16,17] (l':=[(17,nI 0),(16,nI (aLen s0.a.c i1)),(5,.slice (some ⟨w5.heap.size,0,none⟩) 0 0),(0,nP ab0 0),(1,nI i1)]) (w':=w31) (by kernel_rfl) ?_
 intro a36 hF35; clear hF34
 refine wpList_nil (thenN ?_)
 refine wp_block ?_
 refine wp_loop_ghost (fun kI aI wI=>∃ (v38:Value) (L37:List Int) (x39:Int),Fr 34 aI [(17,nI x39),(16,nI (aLen s0.a.c i1)),(5,v38),(0,nP ab0 0),(1,nI i1)]∧St w0 F0 (HeapP b0 ab0 s0::RowP (v38) L37::ps) wI∧live_look.l1 s0 i1 kI L37 x39=some (r0,t0)) k ⟨.slice (some ⟨w5.heap.size,0,none⟩) 0 0,[],0,hF35,hS33,hm20⟩ ?_
 rintro k40 a41 w42 ⟨v38,L37,x39,hF43,hS44,hm45⟩
 clear hF35 hS33 hm20
 rcases k40 with _ | k40
 · cases hm45
 have hm46:live_look.l1b s0 i1 (live_look.l1 s0 i1 k40) L37 x39=some (r0,t0):=hm45
 clear hm45
 unfold live_look.l1b at hm46
 obtain ⟨hl50,p47,c48,rfl,hp49⟩:=St.shape hS44 1 rfl
 refine wp_seq (wp_region_lit ?_)
 refine ev_runs 1 hF43 (l':=[(18,.bool (decide (x39<(aLen s0.a.c i1)))),(17,nI x39),(16,nI (aLen s0.a.c i1)),(5,.slice p47 L37.length c48),(0,nP ab0 0),(1,nI i1)]) (w':=w42) (by kernel_rfl) ?_
 intro a52 hF51; clear hF43
 refine wpList_nil (thenN (wp_seq ?_))
 cases hc53:(decide (x39<(aLen s0.a.c i1)))
 case true =>
  rw [hc53] at hF51
  have hm54:=ifYes hc53 hm46; clear hm46
  refine ev_condT hF51 rfl rfl ?_
  refine wp_skip ?_
  have hF55:=hF51.keep [0,1,5,16,17]
  clear hF51
  refine thenN (wp_seq ?_)
  refine wp_block ?_
  refine wp_seq (wp_region_lit ?_)
  refine ev_runK 2 hF55 [0,1,5,6,16,17] (l':=[(6,nI x39),(17,nI x39),(16,nI (aLen s0.a.c i1)),(5,.slice p47 L37.length c48),(0,nP ab0 0),(1,nI i1)]) (w':=w42) (by kernel_rfl) ?_
  intro a57 hF56; clear hF55
  refine wpList_nil (thenN (wp_seq (wp_region_lit ?_)))
  refine ev_runs 3 hF56 (l':=[(23,nI x39),(22,nI i1),(21,nP ab0 0),(6,nI x39),(17,nI x39),(16,nI (aLen s0.a.c i1)),(5,.slice p47 L37.length c48),(0,nP ab0 0),(1,nI i1)]) (w':=w42) (by kernel_rfl) ?_
  intro a59 hF58; clear hF56
  refine ev_call 25 #[nP ab0 0,nI i1,nI x39] hF58 rfl rfl (by kernel_rfl) rfl (by kernel_rfl) (fun w=>by kernel_rfl) ?_
  obtain ⟨x60,x61,hx62,hm63⟩:=bind2E hm54; clear hm54
  refine (p_ALoad hS44 hx62).mono ?_
  rintro _ w64 ⟨rfl,hS66⟩ a65 hF67; clear hF58 hS44
  refine ev_runK 5 hF67 [0,1,5,7,16,17] (l':=[(7,nI x60),(17,nI x39),(16,nI (aLen s0.a.c i1)),(5,.slice p47 L37.length c48),(0,nP ab0 0),(1,nI i1)]) (w':=w64) (by kernel_rfl) ?_
  intro a69 hF68; clear hF67
  refine wpList_nil (thenN (wp_region_lit ?_))
  refine ev_runs 3 hF68 (l':=[(29,.slice (some ⟨w64.heap.size,0,none⟩) 1 1),(28,nI x60),(27,.slice p47 L37.length c48),(7,nI x60),(17,nI x39),(16,nI (aLen s0.a.c i1)),(5,.slice p47 L37.length c48),(0,nP ab0 0),(1,nI i1)]) (w':=w64.alloc (.cells #[nI x60] 3)) (by kernel_rfl) ?_
  intro a71 hF70; clear hF68
  have hS72:=hS66.pick1
  clear hS66
  obtain ⟨L73,hx74,hm75⟩:=bind1E hm63; clear hm63
  refine ev_pushT 95 rfl 30 (.tmp 27) (.tmp 29) hF70 rfl rfl rfl rfl rfl rfl rfl rfl hS72 hx74 ?_
  intro g76 c77 w78 a79 hS80 hF81; clear hF70 hS72
  refine ev_runK 1 hF81 [0,1,5,16,17] (l':=[(5,nS g76 L73 c77),(17,nI x39),(16,nI (aLen s0.a.c i1)),(0,nP ab0 0),(1,nI i1)]) (w':=w78) (by kernel_rfl) ?_
  intro a83 hF82; clear hF81
  refine wpList_nil ?_
  refine blockN ?_
  refine thenN (wp_region_lit ?_)
  refine ev_runK 2 hF82 [0,1,5,16,17] (l':=[(17,nI (IntKind.i64.wrap (x39+1))),(5,nS g76 L73 c77),(16,nI (aLen s0.a.c i1)),(0,nP ab0 0),(1,nI i1)]) (w':=w78) (by kernel_rfl) ?_
  intro a85 hF84; clear hF82
  refine wpList_nil ?_
  have hF86:Fr 34 a85 [(17,nI (IntKind.i64.wrap (x39+1))),(16,nI (aLen s0.a.c i1)),(5,nS g76 L73 c77),(0,nP ab0 0),(1,nI i1)]:=Fr.re hF84 (by kernel_rfl)
  clear hF84
  have hS87:=hS80.pick1
  clear hS80
  exact thenN ⟨k40,Nat.lt_succ_self _,nS g76 L73 c77,L73,IntKind.i64.wrap (x39+1),hF86,hS87,hm75⟩
 rw [hc53] at hF51
 have hm88:=ifNot hc53 hm46; clear hm46
 refine ev_condF hF51 rfl rfl ?_
 refine wp_exit ?_
 refine thenE ?_
 refine thenE ?_
 refine blockE ?_
 refine thenN (wp_seq (wp_region_lit ?_))
 refine ev_runK 3 hF51 [4] (l':=[(4,.iface 95 (.slice p47 L37.length c48))]) (w':=w42) (by kernel_rfl) ?_
 intro a90 hF89; clear hF51
 refine wpList_nil (thenN ?_)
 refine wp_ret ?_
 simp only [Option.some.injEq,Prod.mk.injEq] at hm88
 obtain ⟨rfl,rfl⟩:=hm88
 refine ev_ret hF89 [4] (.iface 95 (.slice p47 L37.length c48)) rfl rfl rfl ?_
 exact ⟨_,rfl,hS44⟩
def live_places.j4 (x18:Int) (rec21:List Int→Int→Option (List Int)) (L51:List Int):Option (List Int):=rec21 L51 (IntKind.i64.wrap (x18+1))
def live_places.l3b (L0:List Int) (rec21:List Int→Int→Option (List Int)) (L16:List Int) (x18:Int):Option (List Int):=(if (decide (x18<(L0.length:Int))) then (if (inR x18 L0.length) then (if (vIsPtr (atI L0 x18)) then bind1 (pAt (atI L0 x18)) fun x70=>bind1 (pushM L16 x70) fun L79=>live_places.j4 x18 rec21 L79 else live_places.j4 x18 rec21 L16) else none) else some (L16))
def live_places.l3 (L0:List Int):Nat→List Int→Int→Option (List Int)
  | 0=>fun _ _=>none
  | kI+1=>live_places.l3b L0 (live_places.l3 L0 kI)
def live_places.m (k:Nat) (L0:List Int):Option (List Int):=live_places.l3 L0 k [] 0
theorem live_places.ok {w0 w:World} {F0:List Nat} {ps:List Piece} {k:Nat} {v0:Value} {L0:List Int} {r0:List Int} (hS:St w0 F0 (RowP (v0) L0::ps) w) (hm:live_places.m k L0=some r0) :
    Calls Try.prog 66 #[v0] w fun e w'=>∃ vr0,e=.returned (vr0)∧St w0 F0 (RowP (v0) L0::RowP vr0 r0::ps) w':=by
 refine ev_enterL 21 [v0] Try.func66 rfl rfl (by simp) ?_
 intro a hF
 have hF0:Fr 21 a [(0,v0)]:=hF; clear hF
 unfold live_places.m at hm
 obtain ⟨hl4,p1,c2,rfl,hp3⟩:=St.shape hS 0 rfl
 refine wp_seq (wp_region_lit ?_)
 have hS6:St w0 F0 (RowP (.slice none 0 0) []::RowP (.slice p1 L0.length c2) L0::ps) w:=St.nil hS
 refine ev_runK 1 hF0 [0] (l':=[(0,.slice p1 L0.length c2)]) (w':=w) (by kernel_rfl) ?_
 intro a8 hF7; clear hF0
 refine wpList_nil ?_
 have hS9:=hS6.drop
 clear hS6
 refine thenN (wp_seq (wp_region_lit ?_))
 have hS11:St w0 F0 (RowP (.slice none 0 0) []::RowP (.slice p1 L0.length c2) L0::ps) w:=St.nil hS9
 clear hS9
 refine ev_runs 1 hF7 (l':=[(3,.slice none 0 0),(0,.slice p1 L0.length c2)]) (w':=w) (by kernel_rfl) ?_
 intro a13 hF12; clear hF7
 refine wpList_nil (thenN (wp_seq (wp_seq (wp_region_lit ?_))))
 refine ev_runK 3 hF12 [3,6,7,8] (l':=[(8,nI 0),(7,nI ((L0.length:Int))),(6,.slice p1 L0.length c2),(3,.slice none 0 0)]) (w':=w) (by kernel_rfl) ?_
 intro a15 hF14; clear hF12
 refine wpList_nil (thenN ?_)
 refine wp_block ?_
 refine wp_loop_ghost (fun kI aI wI=>∃ (v17:Value) (L16:List Int) (x18:Int),Fr 21 aI [(8,nI x18),(7,nI ((L0.length:Int))),(6,.slice p1 L0.length c2),(3,v17)]∧St w0 F0 (RowP (v17) L16::RowP (.slice p1 L0.length c2) L0::ps) wI∧live_places.l3 L0 kI L16 x18=some r0) k ⟨.slice none 0 0,[],0,hF14,hS11,hm⟩ ?_
 rintro k19 a20 w21 ⟨v17,L16,x18,hF22,hS23,hm24⟩
 clear hF14 hS11 hm
 rcases k19 with _ | k19
 · cases hm24
 have hm25:live_places.l3b L0 (live_places.l3 L0 k19) L16 x18=some r0:=hm24
 clear hm24
 unfold live_places.l3b at hm25
 obtain ⟨hl29,p26,c27,rfl,hp28⟩:=St.shape hS23 0 rfl
 refine wp_seq (wp_region_lit ?_)
 refine ev_runs 1 hF22 (l':=[(9,.bool (decide (x18<(L0.length:Int)))),(8,nI x18),(7,nI ((L0.length:Int))),(6,.slice p1 L0.length c2),(3,.slice p26 L16.length c27)]) (w':=w21) (by kernel_rfl) ?_
 intro a31 hF30; clear hF22
 refine wpList_nil (thenN (wp_seq ?_))
 cases hc32:(decide (x18<(L0.length:Int)))
 case true =>
  rw [hc32] at hF30
  have hm33:=ifYes hc32 hm25; clear hm25
  refine ev_condT hF30 rfl rfl ?_
  refine wp_skip ?_
  have hF34:=hF30.keep [3,6,7,8]
  clear hF30
  refine thenN (wp_seq ?_)
  refine wp_block ?_
  refine wp_seq (wp_region_lit ?_)
  obtain ⟨hc35,hm36⟩:=ifTE hm33; clear hm33
  obtain ⟨g37,rfl⟩:=hp3.resolve_left (by have:=inR_spec hc35; omega)
  refine ev_one (nP g37 (x18.toNat)) w21 hF34 (by kernel_rfl) rfl (by kernel_rfl) (run_idx rfl rfl rfl rfl rfl (inR_spec hc35).1 (inR_spec hc35).2 _) (l':=[(10,nP g37 (x18.toNat)),(8,nI x18),(7,nI ((L0.length:Int))),(6,nS g37 L0 c2),(3,.slice p26 L16.length c27)]) (by kernel_rfl) ?_
  intro a39 hF38; clear hF34
  refine ev_one (nI (atI L0 x18)) w21 hF38 (by kernel_rfl) rfl (by kernel_rfl) (run_load1 rfl rfl rfl (hS23.atI 1 rfl hc35)) (l':=[(11,nI (atI L0 x18)),(10,nP g37 (x18.toNat)),(8,nI x18),(7,nI ((L0.length:Int))),(6,nS g37 L0 c2),(3,.slice p26 L16.length c27)]) (by kernel_rfl) ?_
  intro a41 hF40; clear hF38
  refine ev_runK 1 hF40 [3,5,6,7,8] (l':=[(5,nI (atI L0 x18)),(8,nI x18),(7,nI ((L0.length:Int))),(6,nS g37 L0 c2),(3,.slice p26 L16.length c27)]) (w':=w21) (by kernel_rfl) ?_
  intro a43 hF42; clear hF40
  refine wpList_nil (thenN (wp_seq (wp_region_lit ?_)))
  refine ev_runs 1 hF42 (l':=[(12,nI (atI L0 x18)),(5,nI (atI L0 x18)),(8,nI x18),(7,nI ((L0.length:Int))),(6,nS g37 L0 c2),(3,.slice p26 L16.length c27)]) (w':=w21) (by kernel_rfl) ?_
  intro a45 hF44; clear hF42
  refine ev_call 77 #[nI (atI L0 x18)] hF44 rfl rfl (by kernel_rfl) rfl (by kernel_rfl) (fun w=>by kernel_rfl) ?_
  refine (p_vIsPtr hS23).mono ?_
  rintro _ w46 ⟨rfl,hS48⟩ a47 hF49; clear hF44 hS23
  refine wpList_nil ?_
  have hF50:=hF49.keep [3,5,6,7,8,13]
  clear hF49
  refine thenN ?_
  refine joinQ (fun aI wI=>∃ (v52:Value) (L51:List Int),Fr 21 aI [(8,nI x18),(7,nI ((L0.length:Int))),(6,nS g37 L0 c2),(3,v52)]∧St w0 F0 (RowP (v52) L51::RowP (nS g37 L0 c2) L0::ps) wI∧live_places.j4 x18 (live_places.l3 L0 k19) L51=some r0) ?_ ?_
  rotate_left
  · rintro a54 w55 ⟨v52,L51,hF56,hS57,hm58⟩
    clear hF50 hS48 hm36
    unfold live_places.j4 at hm58
    obtain ⟨hl63,p60,c61,rfl,hp62⟩:=St.shape hS57 0 rfl
    refine blockN ?_
    refine thenN (wp_region_lit ?_)
    refine ev_runK 2 hF56 [3,6,7,8] (l':=[(8,nI (IntKind.i64.wrap (x18+1))),(7,nI ((L0.length:Int))),(6,nS g37 L0 c2),(3,.slice p60 L51.length c61)]) (w':=w55) (by kernel_rfl) ?_
    intro a65 hF64; clear hF56
    refine wpList_nil ?_
    exact thenN ⟨k19,Nat.lt_succ_self _,.slice p60 L51.length c61,L51,IntKind.i64.wrap (x18+1),hF64,hS57,hm58⟩
  · skip
    cases hc66:(vIsPtr (atI L0 x18))
    case true =>
     rw [hc66] at hF50
     have hm67:=ifYes hc66 hm36; clear hm36
     refine ev_condT hF50 rfl rfl ?_
     refine wp_region_lit ?_
     refine ev_runs 2 hF50 (l':=[(15,nI (atI L0 x18)),(14,.slice p26 L16.length c27),(13,.bool true),(5,nI (atI L0 x18)),(8,nI x18),(7,nI ((L0.length:Int))),(6,nS g37 L0 c2),(3,.slice p26 L16.length c27)]) (w':=w46) (by kernel_rfl) ?_
     intro a69 hF68; clear hF50
     refine ev_call 79 #[nI (atI L0 x18)] hF68 rfl rfl (by kernel_rfl) rfl (by kernel_rfl) (fun w=>by kernel_rfl) ?_
     obtain ⟨x70,hx71,hm72⟩:=bind1E hm67; clear hm67
     refine (p_vAt hS48 hx71).mono ?_
     rintro _ w73 ⟨rfl,hS75⟩ a74 hF76; clear hF68 hS48
     refine ev_runs 1 hF76 (l':=[(17,.slice (some ⟨w73.heap.size,0,none⟩) 1 1),(16,nI x70),(15,nI (atI L0 x18)),(14,.slice p26 L16.length c27),(13,.bool true),(5,nI (atI L0 x18)),(8,nI x18),(7,nI ((L0.length:Int))),(6,nS g37 L0 c2),(3,.slice p26 L16.length c27)]) (w':=w73.alloc (.cells #[nI x70] 3)) (by kernel_rfl) ?_
     intro a78 hF77; clear hF76
     obtain ⟨L79,hx80,hm81⟩:=bind1E hm72; clear hm72
     refine ev_push 18 (.tmp 14) (.tmp 17) hF77 rfl rfl rfl rfl rfl rfl rfl rfl hS75 hx80 ?_
     intro g82 c83 w84 a85 hS86 hF87; clear hF77 hS75
     refine ev_runK 1 hF87 [3,6,7,8] (l':=[(3,nS g82 L79 c83),(8,nI x18),(7,nI ((L0.length:Int))),(6,nS g37 L0 c2)]) (w':=w84) (by kernel_rfl) ?_
     intro a89 hF88; clear hF87
     refine wpList_nil ?_
     have hF90:Fr 21 a89 [(8,nI x18),(7,nI ((L0.length:Int))),(6,nS g37 L0 c2),(3,nS g82 L79 c83)]:=Fr.re hF88 (by kernel_rfl)
     clear hF88
     exact thenN ⟨nS g82 L79 c83,L79,hF90,hS86,hm81⟩
    rw [hc66] at hF50
    have hm91:=ifNot hc66 hm36; clear hm36
    refine ev_condF hF50 rfl rfl ?_
    refine wp_skip ?_
    have hF92:=hF50.keep [3,6,7,8]
    clear hF50
    exact thenN ⟨.slice p26 L16.length c27,L16,hF92,hS48,hm91⟩
 rw [hc32] at hF30
 have hm93:=ifNot hc32 hm25; clear hm25
 refine ev_condF hF30 rfl rfl ?_
 refine wp_exit ?_
 refine thenE ?_
 refine thenE ?_
 refine blockE ?_
 refine thenN (wp_seq (wp_region_lit ?_))
 refine ev_runK 2 hF30 [2] (l':=[(2,.slice p26 L16.length c27)]) (w':=w21) (by kernel_rfl) ?_
 intro a95 hF94; clear hF30
 refine wpList_nil (thenN ?_)
 refine wp_ret ?_
 have hS96:=hS23.pick1
 clear hS23
 obtain rfl:=Option.some.inj hm93
 refine ev_ret hF94 [2] (.slice p26 L16.length c27) rfl rfl rfl ?_
 exact ⟨_,rfl,hS96⟩
def live_reached.l1b (k:Nat) (rec37:List Int→(Int→Int)→HSt→Option ((Int→Int)×HSt)) (L31:List Int) (f33:(Int→Int)) (s34:HSt):Option ((Int→Int)×HSt):=(if (decide ((L31.length:Int) > 0)) then (if (inR (0:Int) L31.length) then bind1 (dropM L31 (1:Int)) fun L65=>bind2 (live_look.m k s34 (atI L31 (0:Int))) fun o86 s87=>optE o86 (rec37 L65 f33 s87) fun L96=>(if (wdR (atI L31 (0:Int))) then (if (decide ((f33 (atI L31 (0:Int))) > 0)) then rec37 L65 f33 s87 else (if (keyR (atI L31 (0:Int))) then (if (wdR (IntKind.i64.wrap ((f33 (atI L31 (0:Int)))+1))) then bind1 (live_places.m k L96) fun L152=>bind1 (appM L65 L152) fun L166=>rec37 L166 ((updM f33 (atI L31 (0:Int)) (IntKind.i64.wrap ((f33 (atI L31 (0:Int)))+1)))) s87 else none) else none)) else none) else none) else some (f33,s34))
def live_reached.l1 (k:Nat):Nat→List Int→(Int→Int)→HSt→Option ((Int→Int)×HSt)
  | 0=>fun _ _ _=>none
  | kI+1=>live_reached.l1b k (live_reached.l1 k kI)
def live_reached.m (k:Nat) (s0:HSt) (L1:List Int):Option ((Int→Int)×HSt):=bind1 (appM [] L1) fun L18=>live_reached.l1 k k L18 (fun _=>0) s0
theorem live_reached.ok {w0 w:World} {F0:List Nat} {ps:List Piece} {k:Nat} {b0 ab0:Nat} {s0:HSt} {v1:Value} {L1:List Int} {r0:(Int→Int)} {t0:HSt} (hS:St w0 F0 (HeapP b0 ab0 s0::RowP (v1) L1::ps) w) (hm:live_reached.m k s0 L1=some (r0,t0)) :
    Calls Try.prog 81 #[nP b0 0,v1] w fun e w'=>∃ mr0,e=.returned (.map (some mr0))∧St w0 F0 (HeapP b0 ab0 t0::RowP (v1) L1::ColP mr0 r0::ps) w':=by
 refine ev_enterL 46 [nP b0 0,v1] Try.func81 rfl rfl (by simp) ?_
 intro a hF
 have hF0:Fr 46 a [(0,nP b0 0),(1,v1)]:=hF; clear hF
 unfold live_reached.m at hm
 obtain ⟨hl4,p1,c2,rfl,hp3⟩:=St.shape hS 1 rfl
 refine wp_seq (wp_region_lit ?_)
 refine ev_runK 1 hF0 [0,1] (l':=[(0,nP b0 0),(1,.slice p1 L1.length c2)]) (w':=w) (by kernel_rfl) ?_
 intro a6 hF5; clear hF0
 refine wpList_nil (thenN (wp_seq (wp_region_lit ?_)))
 refine ev_runs 1 hF5 (l':=[(10,.map (some (w.heap.size))),(0,nP b0 0),(1,.slice p1 L1.length c2)]) (w':=w.alloc (.map #[] 0)) (by kernel_rfl) ?_
 intro a9 hF8; clear hF5
 have hS10:St w0 F0 (ColP (w.heap.size) (fun _=>0)::HeapP b0 ab0 s0::RowP (.slice p1 L1.length c2) L1::ps) (w.alloc (.map #[] 0)):=St.newMap hS
 refine ev_runK 1 hF8 [0,1,5] (l':=[(5,.map (some (w.heap.size))),(0,nP b0 0),(1,.slice p1 L1.length c2)]) (w':=w.alloc (.map #[] 0)) (by kernel_rfl) ?_
 intro a12 hF11; clear hF8
 refine wpList_nil (thenN (wp_seq (wp_region_lit ?_)))
 refine ev_runs 1 hF11 (l':=[(11,.slice p1 L1.length c2),(5,.map (some (w.heap.size))),(0,nP b0 0),(1,.slice p1 L1.length c2)]) (w':=w.alloc (.map #[] 0)) (by kernel_rfl) ?_
 intro a14 hF13; clear hF11
 have hS16:St w0 F0 (OffP (.slice none 0 0) []::ColP (w.heap.size) (fun _=>0)::HeapP b0 ab0 s0::RowP (.slice p1 L1.length c2) L1::ps) (w.alloc (.map #[] 0)):=St.nilO hS10
 clear hS10
 have hS17:=hS16.pick3.pick1
 clear hS16
 obtain ⟨L18,hx19,hm20⟩:=bind1E hm; clear hm
 refine ev_appO 34 rfl 12 (.const (.slice none 0 0)) (.tmp 11) hF13 rfl rfl (by kernel_rfl) rfl rfl rfl rfl rfl hS17 hx19 ?_
 intro p21 c22 w23 a24 hS25 hp26 hF27; clear hF13 hS17
 have hF28:=hF27.keep [0,1,5,11,12]; clear hF27
 refine ev_runK 1 hF28 [0,5,6] (l':=[(6,.slice p21 L18.length c22),(5,.map (some (w.heap.size))),(0,nP b0 0)]) (w':=w23) (by kernel_rfl) ?_
 intro a30 hF29; clear hF28
 refine wpList_nil (thenN (wp_seq ?_))
 refine wp_block ?_
 refine wp_loop_ghost (fun kI aI wI=>∃ (v32:Value) (L31:List Int) (f33:(Int→Int)) (s34:HSt),Fr 46 aI [(6,v32),(5,.map (some (w.heap.size))),(0,nP b0 0)]∧St w0 F0 (OffP (v32) L31::RowP (.slice p1 L1.length c2) L1::ColP (w.heap.size) f33::HeapP b0 ab0 s34::ps) wI∧live_reached.l1 k kI L31 f33 s34=some (r0,t0)) k ⟨.slice p21 L18.length c22,L18,(fun _=>0),s0,hF29,hS25,hm20⟩ ?_
 rintro k35 a36 w37 ⟨v32,L31,f33,s34,hF38,hS39,hm40⟩
 clear hF29 hS25 hm20
 rcases k35 with _ | k35
 · cases hm40
 have hm41:live_reached.l1b k (live_reached.l1 k k35) L31 f33 s34=some (r0,t0):=hm40
 clear hm40
 unfold live_reached.l1b at hm41
 obtain ⟨hl45,p42,c43,rfl,hp44⟩:=St.shapeO hS39 0 rfl
 refine wp_seq (wp_seq (wp_region_lit ?_))
 refine ev_runK 3 hF38 [0,5,6,15] (l':=[(15,.bool (decide ((L31.length:Int) > 0))),(6,.slice p42 L31.length c43),(5,.map (some (w.heap.size))),(0,nP b0 0)]) (w':=w37) (by kernel_rfl) ?_
 intro a47 hF46; clear hF38
 refine wpList_nil (thenN ?_)
 cases hc48:(decide ((L31.length:Int) > 0))
 case true =>
  rw [hc48] at hF46
  have hm49:=ifYes hc48 hm41; clear hm41
  refine ev_condT hF46 rfl rfl ?_
  refine wp_skip ?_
  have hF50:=hF46.keep [0,5,6]
  clear hF46
  refine thenN ?_
  refine wp_block ?_
  refine wp_seq (wp_region_lit ?_)
  refine ev_runs 1 hF50 (l':=[(16,.slice p42 L31.length c43),(6,.slice p42 L31.length c43),(5,.map (some (w.heap.size))),(0,nP b0 0)]) (w':=w37) (by kernel_rfl) ?_
  intro a52 hF51; clear hF50
  obtain ⟨hc53,hm54⟩:=ifTE hm49; clear hm49
  obtain ⟨g55,of56,rfl⟩:=hp44.resolve_left (by have:=inR_spec hc53; omega)
  refine ev_one (nP g55 ((of56+(0:Int).toNat))) w37 hF51 (by kernel_rfl) rfl (by kernel_rfl) (run_idxO rfl rfl rfl rfl rfl (inR_spec hc53).1 (inR_spec hc53).2 _) (l':=[(17,nP g55 ((of56+(0:Int).toNat))),(16,.slice (some ⟨g55,of56,none⟩) L31.length c43),(6,.slice (some ⟨g55,of56,none⟩) L31.length c43),(5,.map (some (w.heap.size))),(0,nP b0 0)]) (by kernel_rfl) ?_
  intro a58 hF57; clear hF51
  refine ev_one (nI (atI L31 (0:Int))) w37 hF57 (by kernel_rfl) rfl (by kernel_rfl) (run_load1 rfl rfl rfl (St.atO hS39 0 rfl hc53)) (l':=[(18,nI (atI L31 (0:Int))),(17,nP g55 ((of56+(0:Int).toNat))),(16,.slice (some ⟨g55,of56,none⟩) L31.length c43),(6,.slice (some ⟨g55,of56,none⟩) L31.length c43),(5,.map (some (w.heap.size))),(0,nP b0 0)]) (by kernel_rfl) ?_
  intro a60 hF59; clear hF57
  refine ev_runK 1 hF59 [0,5,6,7] (l':=[(7,nI (atI L31 (0:Int))),(6,.slice (some ⟨g55,of56,none⟩) L31.length c43),(5,.map (some (w.heap.size))),(0,nP b0 0)]) (w':=w37) (by kernel_rfl) ?_
  intro a62 hF61; clear hF59
  refine wpList_nil (thenN (wp_seq (wp_region_lit ?_)))
  refine ev_runs 1 hF61 (l':=[(19,.slice (some ⟨g55,of56,none⟩) L31.length c43),(7,nI (atI L31 (0:Int))),(6,.slice (some ⟨g55,of56,none⟩) L31.length c43),(5,.map (some (w.heap.size))),(0,nP b0 0)]) (w':=w37) (by kernel_rfl) ?_
  intro a64 hF63; clear hF61
  obtain ⟨L65,hx66,hm67⟩:=bind1E hm54; clear hm54
  obtain ⟨hb68,hb69,hl70,hS71⟩:=St.cutO hS39 hx66; clear hS39
  refine ev_one (.slice (some ⟨g55,if c43=(1:Int).toNat then of56 else of56+(1:Int).toNat,none⟩) L65.length (c43 - (1:Int).toNat)) w37 hF63 (by kernel_rfl) rfl (by kernel_rfl) (by rw [hl70]; exact run_sliceLo rfl rfl rfl rfl rfl hb68.1 hb68.2.1 hb68.2.2 _) (l':=[(20,.slice (some ⟨g55,if c43=(1:Int).toNat then of56 else of56+(1:Int).toNat,none⟩) L65.length (c43 - (1:Int).toNat)),(19,.slice (some ⟨g55,of56,none⟩) L31.length c43),(7,nI (atI L31 (0:Int))),(6,.slice (some ⟨g55,of56,none⟩) L31.length c43),(5,.map (some (w.heap.size))),(0,nP b0 0)]) (by kernel_rfl) ?_
  intro a73 hF72; clear hF63
  have hF74:=hF72.keep [0,5,7,20]; clear hF72
  refine ev_runK 1 hF74 [0,5,6,7] (l':=[(6,.slice (some ⟨g55,if c43=(1:Int).toNat then of56 else of56+(1:Int).toNat,none⟩) L65.length (c43 - (1:Int).toNat)),(7,nI (atI L31 (0:Int))),(5,.map (some (w.heap.size))),(0,nP b0 0)]) (w':=w37) (by kernel_rfl) ?_
  intro a76 hF75; clear hF74
  refine wpList_nil (thenN (wp_seq (wp_region_lit ?_)))
  refine ev_runs 1 hF75 (l':=[(22,nP b0 0),(6,.slice (some ⟨g55,if c43=(1:Int).toNat then of56 else of56+(1:Int).toNat,none⟩) L65.length (c43 - (1:Int).toNat)),(7,nI (atI L31 (0:Int))),(5,.map (some (w.heap.size))),(0,nP b0 0)]) (w':=w37) (by kernel_rfl) ?_
  intro a78 hF77; clear hF75
  have hS79:=hS71.pick3
  clear hS71
  refine ev_call 55 #[nP b0 0] hF77 rfl rfl (by kernel_rfl) rfl (by kernel_rfl) (fun w=>by kernel_rfl) ?_
  refine (p_Arena hS79).mono ?_
  rintro _ w80 ⟨rfl,hS82⟩ a81 hF83; clear hF77 hS79
  refine ev_runs 1 hF83 (l':=[(24,nI (atI L31 (0:Int))),(23,nP ab0 0),(22,nP b0 0),(6,.slice (some ⟨g55,if c43=(1:Int).toNat then of56 else of56+(1:Int).toNat,none⟩) L65.length (c43 - (1:Int).toNat)),(7,nI (atI L31 (0:Int))),(5,.map (some (w.heap.size))),(0,nP b0 0)]) (w':=w80) (by kernel_rfl) ?_
  intro a85 hF84; clear hF83
  refine ev_call 65 #[nP ab0 0,nI (atI L31 (0:Int))] hF84 rfl rfl (by kernel_rfl) rfl (by kernel_rfl) (fun w=>by kernel_rfl) ?_
  obtain ⟨o86,s87,hx88,hm89⟩:=bind2E hm67; clear hm67
  refine (live_look.ok hS82 hx88).mono ?_
  rintro _ w90 ⟨z94,rfl,hS92⟩ a91 hF93; clear hF84 hS82
  cases o86 with
  | none =>
   have hm97:=optN hm89; clear hm89
   have hS99:St w0 F0 (OffP (.slice none 0 0) []::HeapP b0 ab0 s87::RowP (z94) (Option.getD (none:Option (List Int)) [])::OffP (.slice (some ⟨g55,if c43=(1:Int).toNat then of56 else of56+(1:Int).toNat,none⟩) L65.length (c43 - (1:Int).toNat)) L65::RowP (.slice p1 L1.length c2) L1::ColP (w.heap.size) f33::ps) w90:=St.nilO hS92
   clear hS92
   refine ev_runK 6 hF93 [0,5,6,7,8,9] (l':=[(9,.bool false),(8,.slice none 0 0),(6,.slice (some ⟨g55,if c43=(1:Int).toNat then of56 else of56+(1:Int).toNat,none⟩) L65.length (c43 - (1:Int).toNat)),(7,nI (atI L31 (0:Int))),(5,.map (some (w.heap.size))),(0,nP b0 0)]) (w':=w90) (by kernel_rfl) ?_
   intro a101 hF100; clear hF93
   refine wpList_nil ?_
   have hS102:=hS99.pick2.drop
   clear hS99
   refine thenN (wp_seq (wp_seq (wp_region_lit ?_)))
   refine ev_runK 8 hF100 [0,5,6,7,8,36] (l':=[(36,.bool true),(8,.slice none 0 0),(6,.slice (some ⟨g55,if c43=(1:Int).toNat then of56 else of56+(1:Int).toNat,none⟩) L65.length (c43 - (1:Int).toNat)),(7,nI (atI L31 (0:Int))),(5,.map (some (w.heap.size))),(0,nP b0 0)]) (w':=w90) (by kernel_rfl) ?_
   intro a104 hF103; clear hF100
   refine wpList_nil (thenN ?_)
   refine ev_condT hF103 rfl rfl ?_
   refine wp_exit ?_
   refine thenE ?_
   refine blockE ?_
   have hF105:=hF103.keep [0,5,6]
   clear hF103
   have hS106:=hS102.drop
   clear hS102
   have hS107:=hS106.pick3.pick3.pick3
   clear hS106
   exact thenN ⟨k35,Nat.lt_succ_self _,.slice (some ⟨g55,if c43=(1:Int).toNat then of56 else of56+(1:Int).toNat,none⟩) L65.length (c43 - (1:Int).toNat),L65,f33,s87,hF105,hS107,hm97⟩
  | some L96 =>
   have hm108:=optS hm89; clear hm89
   have hS109:St w0 F0 (HeapP b0 ab0 s87::RowP (z94) L96::OffP (.slice (some ⟨g55,if c43=(1:Int).toNat then of56 else of56+(1:Int).toNat,none⟩) L65.length (c43 - (1:Int).toNat)) L65::RowP (.slice p1 L1.length c2) L1::ColP (w.heap.size) f33::ps) w90:=hS92
   clear hS92
   obtain ⟨hl113,p110,c111,rfl,hp112⟩:=St.shape hS109 1 rfl
   refine ev_runK 6 hF93 [0,5,6,7,8,9] (l':=[(9,.bool true),(8,.slice p110 L96.length c111),(6,.slice (some ⟨g55,if c43=(1:Int).toNat then of56 else of56+(1:Int).toNat,none⟩) L65.length (c43 - (1:Int).toNat)),(7,nI (atI L31 (0:Int))),(5,.map (some (w.heap.size))),(0,nP b0 0)]) (w':=w90) (by kernel_rfl) ?_
   intro a115 hF114; clear hF93
   refine wpList_nil (thenN (wp_seq (wp_seq (wp_region_lit ?_))))
   refine ev_runs 5 hF114 (l':=[(33,nI (atI L31 (0:Int))),(32,.map (some (w.heap.size))),(31,.bool false),(30,.bool false),(29,.bool true),(9,.bool true),(8,.slice p110 L96.length c111),(6,.slice (some ⟨g55,if c43=(1:Int).toNat then of56 else of56+(1:Int).toNat,none⟩) L65.length (c43 - (1:Int).toNat)),(7,nI (atI L31 (0:Int))),(5,.map (some (w.heap.size))),(0,nP b0 0)]) (w':=w90) (by kernel_rfl) ?_
   intro a117 hF116; clear hF114
   obtain ⟨hc118,hm119⟩:=ifTE hm108; clear hm108
   refine ev_colGetG 34 4 (.tmp 32) (.tmp 33) (atI L31 (0:Int)) hF116 hS109 rfl (by kernel_rfl) rfl (by kernel_rfl) rfl (by kernel_rfl) (by kernel_rfl) rfl rfl hc118 ?_
   intro a121 hF120; clear hF116
   have hF122:Fr 46 a121 [(34,nI (f33 (atI L31 (0:Int)))),(33,nI (atI L31 (0:Int))),(32,.map (some (w.heap.size))),(31,.bool false),(30,.bool false),(29,.bool true),(9,.bool true),(8,.slice p110 L96.length c111),(6,.slice (some ⟨g55,if c43=(1:Int).toNat then of56 else of56+(1:Int).toNat,none⟩) L65.length (c43 - (1:Int).toNat)),(7,nI (atI L31 (0:Int))),(5,.map (some (w.heap.size))),(0,nP b0 0)]:=hF120
   clear hF120
   refine ev_runK 2 hF122 [0,5,6,7,8,36] (l':=[(36,.bool (decide ((f33 (atI L31 (0:Int))) > 0))),(8,.slice p110 L96.length c111),(6,.slice (some ⟨g55,if c43=(1:Int).toNat then of56 else of56+(1:Int).toNat,none⟩) L65.length (c43 - (1:Int).toNat)),(7,nI (atI L31 (0:Int))),(5,.map (some (w.heap.size))),(0,nP b0 0)]) (w':=w90) (by kernel_rfl) ?_
   intro a124 hF123; clear hF122
   refine wpList_nil (thenN ?_)
   cases hc125:(decide ((f33 (atI L31 (0:Int))) > 0))
   case true =>
    rw [hc125] at hF123
    have hm126:=ifYes hc125 hm119; clear hm119
    refine ev_condT hF123 rfl rfl ?_
    refine wp_exit ?_
    refine thenE ?_
    refine blockE ?_
    have hF127:=hF123.keep [0,5,6]
    clear hF123
    have hS128:=hS109.pick1.drop
    clear hS109
    have hS129:=hS128.pick3.pick3.pick3
    clear hS128
    exact thenN ⟨k35,Nat.lt_succ_self _,.slice (some ⟨g55,if c43=(1:Int).toNat then of56 else of56+(1:Int).toNat,none⟩) L65.length (c43 - (1:Int).toNat),L65,f33,s87,hF127,hS129,hm126⟩
   rw [hc125] at hF123
   have hm130:=ifNot hc125 hm119; clear hm119
   refine ev_condF hF123 rfl rfl ?_
   refine wp_skip ?_
   have hF131:=hF123.keep [0,5,6,7,8]
   clear hF123
   refine thenN (wp_seq (wp_region_lit ?_))
   refine ev_runs 2 hF131 (l':=[(38,nI (atI L31 (0:Int))),(37,.map (some (w.heap.size))),(8,.slice p110 L96.length c111),(6,.slice (some ⟨g55,if c43=(1:Int).toNat then of56 else of56+(1:Int).toNat,none⟩) L65.length (c43 - (1:Int).toNat)),(7,nI (atI L31 (0:Int))),(5,.map (some (w.heap.size))),(0,nP b0 0)]) (w':=w90) (by kernel_rfl) ?_
   intro a133 hF132; clear hF131
   refine ev_colGet 39 4 (.tmp 37) (.tmp 38) (atI L31 (0:Int)) hF132 hS109 rfl rfl rfl (by kernel_rfl) rfl (by kernel_rfl) (by kernel_rfl) rfl rfl hc118 ?_
   intro a135 hF134; clear hF132
   have hF136:Fr 46 a135 [(39,nI (f33 (atI L31 (0:Int)))),(38,nI (atI L31 (0:Int))),(37,.map (some (w.heap.size))),(8,.slice p110 L96.length c111),(6,.slice (some ⟨g55,if c43=(1:Int).toNat then of56 else of56+(1:Int).toNat,none⟩) L65.length (c43 - (1:Int).toNat)),(7,nI (atI L31 (0:Int))),(5,.map (some (w.heap.size))),(0,nP b0 0)]:=hF134
   clear hF134
   refine ev_runs 1 hF136 (l':=[(40,nI (IntKind.i64.wrap ((f33 (atI L31 (0:Int)))+1))),(39,nI (f33 (atI L31 (0:Int)))),(38,nI (atI L31 (0:Int))),(37,.map (some (w.heap.size))),(8,.slice p110 L96.length c111),(6,.slice (some ⟨g55,if c43=(1:Int).toNat then of56 else of56+(1:Int).toNat,none⟩) L65.length (c43 - (1:Int).toNat)),(7,nI (atI L31 (0:Int))),(5,.map (some (w.heap.size))),(0,nP b0 0)]) (w':=w90) (by kernel_rfl) ?_
   intro a138 hF137; clear hF136
   have hS139:=hS109.pick4
   clear hS109
   obtain ⟨hc140,hm141⟩:=ifTE hm130; clear hm130
   obtain ⟨hc142,hm143⟩:=ifTE hm141; clear hm141
   refine ev_colSet (.tmp 37) (.tmp 38) (.tmp 40) (atI L31 (0:Int)) (IntKind.i64.wrap ((f33 (atI L31 (0:Int)))+1)) hF137 hS139 rfl rfl (by kernel_rfl) (by kernel_rfl) (by kernel_rfl) rfl rfl rfl hc140 hc142 (l':=[(40,nI (IntKind.i64.wrap ((f33 (atI L31 (0:Int)))+1))),(39,nI (f33 (atI L31 (0:Int)))),(38,nI (atI L31 (0:Int))),(37,.map (some (w.heap.size))),(8,.slice p110 L96.length c111),(6,.slice (some ⟨g55,if c43=(1:Int).toNat then of56 else of56+(1:Int).toNat,none⟩) L65.length (c43 - (1:Int).toNat)),(7,nI (atI L31 (0:Int))),(5,.map (some (w.heap.size))),(0,nP b0 0)]) (by kernel_rfl) ?_
   intro w144 a145 hS146 hF147; clear hF137 hS139
   refine wpList_nil ?_
   have hF148:=hF147.keep [0,5,6,8]
   clear hF147
   refine thenN (wp_region_lit ?_)
   refine ev_runs 2 hF148 (l':=[(42,.slice p110 L96.length c111),(41,.slice (some ⟨g55,if c43=(1:Int).toNat then of56 else of56+(1:Int).toNat,none⟩) L65.length (c43 - (1:Int).toNat)),(8,.slice p110 L96.length c111),(6,.slice (some ⟨g55,if c43=(1:Int).toNat then of56 else of56+(1:Int).toNat,none⟩) L65.length (c43 - (1:Int).toNat)),(5,.map (some (w.heap.size))),(0,nP b0 0)]) (w':=w144) (by kernel_rfl) ?_
   intro a150 hF149; clear hF148
   have hS151:=hS146.pick2
   clear hS146
   refine ev_call 66 #[.slice p110 L96.length c111] hF149 rfl rfl (by kernel_rfl) rfl (by kernel_rfl) (fun w=>by kernel_rfl) ?_
   obtain ⟨L152,hx153,hm154⟩:=bind1E hm143; clear hm143
   refine (live_places.ok hS151 hx153).mono ?_
   rintro _ w155 ⟨z159,rfl,hS157⟩ a156 hF158; clear hF149 hS151
   obtain ⟨hl164,p161,c162,rfl,hp163⟩:=St.shape hS157 1 rfl
   have hS165:=hS157.pick1.pick4
   clear hS157
   obtain ⟨L166,hx167,hm168⟩:=bind1E hm154; clear hm154
   refine ev_appO 34 rfl 44 (.tmp 41) (.tmp 43) hF158 rfl rfl (by kernel_rfl) rfl rfl rfl rfl rfl hS165 hx167 ?_
   intro p169 c170 w171 a172 hS173 hp174 hF175; clear hF158 hS165
   have hF176:=hF175.keep [0,5,8,42,43,44]; clear hF175
   refine ev_runK 1 hF176 [0,5,6] (l':=[(6,.slice p169 L166.length c170),(5,.map (some (w.heap.size))),(0,nP b0 0)]) (w':=w171) (by kernel_rfl) ?_
   intro a178 hF177; clear hF176
   refine wpList_nil ?_
   have hS179:=hS173.pick1.drop.pick1.drop
   clear hS173
   refine blockN ?_
   have hS180:=hS179.pick2.pick2.pick3.pick3
   clear hS179
   exact thenN ⟨k35,Nat.lt_succ_self _,.slice p169 L166.length c170,L166,(updM f33 (atI L31 (0:Int)) (IntKind.i64.wrap ((f33 (atI L31 (0:Int)))+1))),s87,hF177,hS180,hm168⟩
 rw [hc48] at hF46
 have hm181:=ifNot hc48 hm41; clear hm41
 refine ev_condF hF46 rfl rfl ?_
 refine wp_exit ?_
 refine thenE ?_
 refine thenE ?_
 refine blockE ?_
 refine thenN (wp_seq (wp_region_lit ?_))
 refine ev_runK 2 hF46 [4] (l':=[(4,.map (some (w.heap.size)))]) (w':=w37) (by kernel_rfl) ?_
 intro a183 hF182; clear hF46
 refine wpList_nil ?_
 have hS184:=hS39.drop
 clear hS39
 refine thenN ?_
 refine wp_ret ?_
 have hS185:=hS184.pick1.pick1.pick2
 clear hS184
 simp only [Option.some.injEq,Prod.mk.injEq] at hm181
 obtain ⟨rfl,rfl⟩:=hm181
 refine ev_ret hF182 [4] (.map (some (w.heap.size))) rfl rfl rfl ?_
 exact ⟨_,rfl,hS185⟩
def live_those.j4 (x49:Int) (rec52:List Int→Int→Option (List Int×HSt)) (L84:List Int):Option (List Int×HSt):=rec52 L84 (IntKind.i64.wrap (x49+1))
def live_those.l3b (i2:Bool) (f12:(Int→Int)) (s13:HSt) (rec52:List Int→Int→Option (List Int×HSt)) (L47:List Int) (x49:Int):Option (List Int×HSt):=(if (decide (x49<((hObjsF s13.a).length:Int))) then (if (inR x49 (hObjsF s13.a).length) then (if (wdR (atI (hObjsF s13.a) x49)) then (if ((decide ((f12 (atI (hObjsF s13.a) x49)) > 0)) == (i2)) then bind1 (pushM L47 (atI (hObjsF s13.a) x49)) fun L104=>live_those.j4 x49 rec52 L104 else live_those.j4 x49 rec52 L47) else none) else none) else some (L47,s13))
def live_those.l3 (i2:Bool) (f12:(Int→Int)) (s13:HSt):Nat→List Int→Int→Option (List Int×HSt)
  | 0=>fun _ _=>none
  | kI+1=>live_those.l3b i2 f12 s13 (live_those.l3 i2 f12 s13 kI)
def live_those.m (k:Nat) (s0:HSt) (L1:List Int) (i2:Bool):Option (List Int×HSt):=bind2 (live_reached.m k s0 L1) fun f12 s13=>live_those.l3 i2 f12 s13 k [] 0
theorem live_those.ok {w0 w:World} {F0:List Nat} {ps:List Piece} {k:Nat} {b0 ab0:Nat} {s0:HSt} {v1:Value} {L1:List Int} {i2:Bool} {r0:List Int} {t0:HSt} (hS:St w0 F0 (HeapP b0 ab0 s0::RowP (v1) L1::ps) w) (hm:live_those.m k s0 L1 i2=some (r0,t0)) :
    Calls Try.prog 61 #[nP b0 0,v1,.bool (i2)] w fun e w'=>∃ vr0,e=.returned (vr0)∧St w0 F0 (HeapP b0 ab0 t0::RowP (v1) L1::RowP vr0 r0::ps) w':=by
 refine ev_enterL 34 [nP b0 0,v1,.bool (i2)] Try.func61 rfl rfl (by simp) ?_
 intro a hF
 have hF0:Fr 34 a [(0,nP b0 0),(1,v1),(2,.bool (i2))]:=hF; clear hF
 unfold live_those.m at hm
 obtain ⟨hl4,p1,c2,rfl,hp3⟩:=St.shape hS 1 rfl
 refine wp_seq (wp_region_lit ?_)
 have hS6:St w0 F0 (RowP (.slice none 0 0) []::HeapP b0 ab0 s0::RowP (.slice p1 L1.length c2) L1::ps) w:=St.nil hS
 refine ev_runK 1 hF0 [0,1,2] (l':=[(0,nP b0 0),(1,.slice p1 L1.length c2),(2,.bool (i2))]) (w':=w) (by kernel_rfl) ?_
 intro a8 hF7; clear hF0
 refine wpList_nil ?_
 have hS9:=hS6.drop
 clear hS6
 refine thenN (wp_seq (wp_region_lit ?_))
 refine ev_runs 2 hF7 (l':=[(12,.slice p1 L1.length c2),(11,nP b0 0),(0,nP b0 0),(1,.slice p1 L1.length c2),(2,.bool (i2))]) (w':=w) (by kernel_rfl) ?_
 intro a11 hF10; clear hF7
 refine ev_call 81 #[nP b0 0,.slice p1 L1.length c2] hF10 rfl rfl (by kernel_rfl) rfl (by kernel_rfl) (fun w=>by kernel_rfl) ?_
 obtain ⟨f12,s13,hx14,hm15⟩:=bind2E hm; clear hm
 refine (live_reached.ok hS9 hx14).mono ?_
 rintro _ w16 ⟨z20,rfl,hS18⟩ a17 hF19; clear hF10 hS9
 refine ev_runK 1 hF19 [0,2,7] (l':=[(7,.map (some (z20))),(0,nP b0 0),(2,.bool (i2))]) (w':=w16) (by kernel_rfl) ?_
 intro a23 hF22; clear hF19
 refine wpList_nil (thenN (wp_seq (wp_region_lit ?_)))
 have hS25:St w0 F0 (RowP (.slice none 0 0) []::HeapP b0 ab0 s13::RowP (.slice p1 L1.length c2) L1::ColP (z20) f12::ps) w16:=St.nil hS18
 clear hS18
 refine ev_runs 1 hF22 (l':=[(8,.slice none 0 0),(7,.map (some (z20))),(0,nP b0 0),(2,.bool (i2))]) (w':=w16) (by kernel_rfl) ?_
 intro a27 hF26; clear hF22
 refine wpList_nil (thenN (wp_seq (wp_seq (wp_region_lit ?_))))
 refine ev_runs 1 hF26 (l':=[(14,nP b0 0),(8,.slice none 0 0),(7,.map (some (z20))),(0,nP b0 0),(2,.bool (i2))]) (w':=w16) (by kernel_rfl) ?_
 intro a29 hF28; clear hF26
 have hS30:=hS25.pick1
 clear hS25
 refine ev_call 55 #[nP b0 0] hF28 rfl rfl (by kernel_rfl) rfl (by kernel_rfl) (fun w=>by kernel_rfl) ?_
 refine (p_Arena hS30).mono ?_
 rintro _ w31 ⟨rfl,hS33⟩ a32 hF34; clear hF28 hS30
 refine ev_call 17 #[nP ab0 0] hF34 rfl rfl (by kernel_rfl) rfl (by kernel_rfl) (fun w=>by kernel_rfl) ?_
 refine (p_Objects hS33).mono ?_
 rintro _ w35 ⟨z39,rfl,hS37⟩ a36 hF38; clear hF34 hS33
 obtain ⟨hl44,p41,c42,rfl,hp43⟩:=St.shape hS37 1 rfl
 refine ev_runK 2 hF38 [2,7,8,16,17,18] (l':=[(18,nI 0),(17,nI (((hObjsF s13.a).length:Int))),(16,.slice p41 (hObjsF s13.a).length c42),(8,.slice none 0 0),(7,.map (some (z20))),(2,.bool (i2))]) (w':=w35) (by kernel_rfl) ?_
 intro a46 hF45; clear hF38
 refine wpList_nil (thenN ?_)
 refine wp_block ?_
 refine wp_loop_ghost (fun kI aI wI=>∃ (v48:Value) (L47:List Int) (x49:Int),Fr 34 aI [(18,nI x49),(17,nI (((hObjsF s13.a).length:Int))),(16,.slice p41 (hObjsF s13.a).length c42),(8,v48),(7,.map (some (z20))),(2,.bool (i2))]∧St w0 F0 (HeapP b0 ab0 s13::RowP (.slice p41 (hObjsF s13.a).length c42) (hObjsF s13.a)::RowP (v48) L47::RowP (.slice p1 L1.length c2) L1::ColP (z20) f12::ps) wI∧live_those.l3 i2 f12 s13 kI L47 x49=some (r0,t0)) k ⟨.slice none 0 0,[],0,hF45,hS37,hm15⟩ ?_
 rintro k50 a51 w52 ⟨v48,L47,x49,hF53,hS54,hm55⟩
 clear hF45 hS37 hm15
 rcases k50 with _ | k50
 · cases hm55
 have hm56:live_those.l3b i2 f12 s13 (live_those.l3 i2 f12 s13 k50) L47 x49=some (r0,t0):=hm55
 clear hm55
 unfold live_those.l3b at hm56
 obtain ⟨hl60,p57,c58,rfl,hp59⟩:=St.shape hS54 2 rfl
 refine wp_seq (wp_region_lit ?_)
 refine ev_runs 1 hF53 (l':=[(19,.bool (decide (x49<((hObjsF s13.a).length:Int)))),(18,nI x49),(17,nI (((hObjsF s13.a).length:Int))),(16,.slice p41 (hObjsF s13.a).length c42),(8,.slice p57 L47.length c58),(7,.map (some (z20))),(2,.bool (i2))]) (w':=w52) (by kernel_rfl) ?_
 intro a62 hF61; clear hF53
 refine wpList_nil (thenN (wp_seq ?_))
 cases hc63:(decide (x49<((hObjsF s13.a).length:Int)))
 case true =>
  rw [hc63] at hF61
  have hm64:=ifYes hc63 hm56; clear hm56
  refine ev_condT hF61 rfl rfl ?_
  refine wp_skip ?_
  have hF65:=hF61.keep [2,7,8,16,17,18]
  clear hF61
  refine thenN (wp_seq ?_)
  refine wp_block ?_
  refine wp_seq (wp_region_lit ?_)
  obtain ⟨hc66,hm67⟩:=ifTE hm64; clear hm64
  obtain ⟨g68,rfl⟩:=hp43.resolve_left (by have:=inR_spec hc66; omega)
  refine ev_one (nP g68 (x49.toNat)) w52 hF65 (by kernel_rfl) rfl (by kernel_rfl) (run_idx rfl rfl rfl rfl rfl (inR_spec hc66).1 (inR_spec hc66).2 _) (l':=[(20,nP g68 (x49.toNat)),(18,nI x49),(17,nI (((hObjsF s13.a).length:Int))),(16,.slice (some ⟨g68,0,none⟩) (hObjsF s13.a).length c42),(8,.slice p57 L47.length c58),(7,.map (some (z20))),(2,.bool (i2))]) (by kernel_rfl) ?_
  intro a70 hF69; clear hF65
  refine ev_one (nI (atI (hObjsF s13.a) x49)) w52 hF69 (by kernel_rfl) rfl (by kernel_rfl) (run_load1 rfl rfl rfl (hS54.atI 1 rfl hc66)) (l':=[(21,nI (atI (hObjsF s13.a) x49)),(20,nP g68 (x49.toNat)),(18,nI x49),(17,nI (((hObjsF s13.a).length:Int))),(16,.slice (some ⟨g68,0,none⟩) (hObjsF s13.a).length c42),(8,.slice p57 L47.length c58),(7,.map (some (z20))),(2,.bool (i2))]) (by kernel_rfl) ?_
  intro a72 hF71; clear hF69
  refine ev_runK 1 hF71 [2,7,8,10,16,17,18] (l':=[(10,nI (atI (hObjsF s13.a) x49)),(18,nI x49),(17,nI (((hObjsF s13.a).length:Int))),(16,.slice (some ⟨g68,0,none⟩) (hObjsF s13.a).length c42),(8,.slice p57 L47.length c58),(7,.map (some (z20))),(2,.bool (i2))]) (w':=w52) (by kernel_rfl) ?_
  intro a74 hF73; clear hF71
  refine wpList_nil (thenN (wp_seq (wp_region_lit ?_)))
  refine ev_runs 2 hF73 (l':=[(23,nI (atI (hObjsF s13.a) x49)),(22,.map (some (z20))),(10,nI (atI (hObjsF s13.a) x49)),(18,nI x49),(17,nI (((hObjsF s13.a).length:Int))),(16,.slice (some ⟨g68,0,none⟩) (hObjsF s13.a).length c42),(8,.slice p57 L47.length c58),(7,.map (some (z20))),(2,.bool (i2))]) (w':=w52) (by kernel_rfl) ?_
  intro a76 hF75; clear hF73
  obtain ⟨hc77,hm78⟩:=ifTE hm67; clear hm67
  refine ev_colGet 24 4 (.tmp 22) (.tmp 23) (atI (hObjsF s13.a) x49) hF75 hS54 rfl rfl rfl (by kernel_rfl) rfl (by kernel_rfl) (by kernel_rfl) rfl rfl hc77 ?_
  intro a80 hF79; clear hF75
  have hF81:Fr 34 a80 [(24,nI (f12 (atI (hObjsF s13.a) x49))),(23,nI (atI (hObjsF s13.a) x49)),(22,.map (some (z20))),(10,nI (atI (hObjsF s13.a) x49)),(18,nI x49),(17,nI (((hObjsF s13.a).length:Int))),(16,.slice (some ⟨g68,0,none⟩) (hObjsF s13.a).length c42),(8,.slice p57 L47.length c58),(7,.map (some (z20))),(2,.bool (i2))]:=hF79
  clear hF79
  refine ev_runK 3 hF81 [2,7,8,10,16,17,18,27] (l':=[(27,.bool ((decide ((f12 (atI (hObjsF s13.a) x49)) > 0)) == (i2))),(10,nI (atI (hObjsF s13.a) x49)),(18,nI x49),(17,nI (((hObjsF s13.a).length:Int))),(16,.slice (some ⟨g68,0,none⟩) (hObjsF s13.a).length c42),(8,.slice p57 L47.length c58),(7,.map (some (z20))),(2,.bool (i2))]) (w':=w52) (by kernel_rfl) ?_
  intro a83 hF82; clear hF81
  refine wpList_nil (thenN ?_)
  refine joinQ (fun aI wI=>∃ (v85:Value) (L84:List Int),Fr 34 aI [(18,nI x49),(17,nI (((hObjsF s13.a).length:Int))),(16,.slice (some ⟨g68,0,none⟩) (hObjsF s13.a).length c42),(8,v85),(7,.map (some (z20))),(2,.bool (i2))]∧St w0 F0 (HeapP b0 ab0 s13::RowP (.slice (some ⟨g68,0,none⟩) (hObjsF s13.a).length c42) (hObjsF s13.a)::RowP (v85) L84::RowP (.slice p1 L1.length c2) L1::ColP (z20) f12::ps) wI∧live_those.j4 x49 (live_those.l3 i2 f12 s13 k50) L84=some (r0,t0)) ?_ ?_
  rotate_left
  · rintro a87 w88 ⟨v85,L84,hF89,hS90,hm91⟩
    clear hF82 hS54 hm78
    unfold live_those.j4 at hm91
    obtain ⟨hl96,p93,c94,rfl,hp95⟩:=St.shape hS90 2 rfl
    refine blockN ?_
    refine thenN (wp_region_lit ?_)
    refine ev_runK 2 hF89 [2,7,8,16,17,18] (l':=[(18,nI (IntKind.i64.wrap (x49+1))),(17,nI (((hObjsF s13.a).length:Int))),(16,.slice (some ⟨g68,0,none⟩) (hObjsF s13.a).length c42),(8,.slice p93 L84.length c94),(7,.map (some (z20))),(2,.bool (i2))]) (w':=w88) (by kernel_rfl) ?_
    intro a98 hF97; clear hF89
    refine wpList_nil ?_
    exact thenN ⟨k50,Nat.lt_succ_self _,.slice p93 L84.length c94,L84,IntKind.i64.wrap (x49+1),hF97,hS90,hm91⟩
  · skip
    cases hc99:((decide ((f12 (atI (hObjsF s13.a) x49)) > 0)) == (i2))
    case true =>
     rw [hc99] at hF82
     have hm100:=ifYes hc99 hm78; clear hm78
     refine ev_condT hF82 rfl rfl ?_
     refine wp_region_lit ?_
     refine ev_runs 3 hF82 (l':=[(30,.slice (some ⟨w52.heap.size,0,none⟩) 1 1),(29,nI (atI (hObjsF s13.a) x49)),(28,.slice p57 L47.length c58),(27,.bool true),(10,nI (atI (hObjsF s13.a) x49)),(18,nI x49),(17,nI (((hObjsF s13.a).length:Int))),(16,.slice (some ⟨g68,0,none⟩) (hObjsF s13.a).length c42),(8,.slice p57 L47.length c58),(7,.map (some (z20))),(2,.bool (i2))]) (w':=w52.alloc (.cells #[nI (atI (hObjsF s13.a) x49)] 3)) (by kernel_rfl) ?_
     intro a102 hF101; clear hF82
     have hS103:=hS54.pick2
     clear hS54
     obtain ⟨L104,hx105,hm106⟩:=bind1E hm100; clear hm100
     refine ev_push 31 (.tmp 28) (.tmp 30) hF101 rfl rfl rfl rfl rfl rfl rfl rfl hS103 hx105 ?_
     intro g107 c108 w109 a110 hS111 hF112; clear hF101 hS103
     refine ev_runK 1 hF112 [2,7,8,16,17,18] (l':=[(8,nS g107 L104 c108),(18,nI x49),(17,nI (((hObjsF s13.a).length:Int))),(16,.slice (some ⟨g68,0,none⟩) (hObjsF s13.a).length c42),(7,.map (some (z20))),(2,.bool (i2))]) (w':=w109) (by kernel_rfl) ?_
     intro a114 hF113; clear hF112
     refine wpList_nil ?_
     have hF115:Fr 34 a114 [(18,nI x49),(17,nI (((hObjsF s13.a).length:Int))),(16,.slice (some ⟨g68,0,none⟩) (hObjsF s13.a).length c42),(8,nS g107 L104 c108),(7,.map (some (z20))),(2,.bool (i2))]:=Fr.re hF113 (by kernel_rfl)
     clear hF113
     have hS116:=hS111.pick4.pick4.pick2.pick4.pick4
     clear hS111
     exact thenN ⟨nS g107 L104 c108,L104,hF115,hS116,hm106⟩
    rw [hc99] at hF82
    have hm117:=ifNot hc99 hm78; clear hm78
    refine ev_condF hF82 rfl rfl ?_
    refine wp_skip ?_
    have hF118:=hF82.keep [2,7,8,16,17,18]
    clear hF82
    exact thenN ⟨.slice p57 L47.length c58,L47,hF118,hS54,hm117⟩
 rw [hc63] at hF61
 have hm119:=ifNot hc63 hm56; clear hm56
 refine ev_condF hF61 rfl rfl ?_
 refine wp_exit ?_
 refine thenE ?_
 refine thenE ?_
 refine blockE ?_
 refine thenN (wp_seq (wp_region_lit ?_))
 refine ev_runK 2 hF61 [6] (l':=[(6,.slice p57 L47.length c58)]) (w':=w52) (by kernel_rfl) ?_
 intro a121 hF120; clear hF61
 refine wpList_nil ?_
 have hS122:=hS54.pick1.drop.pick3.drop
 clear hS54
 refine thenN ?_
 refine wp_ret ?_
 have hS123:=hS122.pick1.pick2.pick2
 clear hS122
 simp only [Option.some.injEq,Prod.mk.injEq] at hm119
 obtain ⟨rfl,rfl⟩:=hm119
 refine ev_ret hF120 [6] (.slice p57 L47.length c58) rfl rfl rfl ?_
 exact ⟨_,rfl,hS123⟩
def live_Reach.m (k:Nat) (s0:HSt) (L1:List Int):Option (List Int×HSt):=bind2 (live_those.m k s0 L1 (true)) fun L12 s13=>some (L12,s13)
theorem live_Reach.ok {w0 w:World} {F0:List Nat} {ps:List Piece} {k:Nat} {b0 ab0:Nat} {s0:HSt} {v1:Value} {L1:List Int} {r0:List Int} {t0:HSt} (hS:St w0 F0 (HeapP b0 ab0 s0::RowP (v1) L1::ps) w) (hm:live_Reach.m k s0 L1=some (r0,t0)) :
    Calls Try.prog 29 #[nP b0 0,v1] w fun e w'=>∃ vr0,e=.returned (vr0)∧St w0 F0 (HeapP b0 ab0 t0::RowP (v1) L1::RowP vr0 r0::ps) w':=by
 refine ev_enterL 8 [nP b0 0,v1] Try.func29 rfl rfl (by simp) ?_
 intro a hF
 have hF0:Fr 8 a [(0,nP b0 0),(1,v1)]:=hF; clear hF
 unfold live_Reach.m at hm
 obtain ⟨hl4,p1,c2,rfl,hp3⟩:=St.shape hS 1 rfl
 refine wp_seq (wp_region_lit ?_)
 have hS6:St w0 F0 (RowP (.slice none 0 0) []::HeapP b0 ab0 s0::RowP (.slice p1 L1.length c2) L1::ps) w:=St.nil hS
 refine ev_runK 1 hF0 [0,1] (l':=[(0,nP b0 0),(1,.slice p1 L1.length c2)]) (w':=w) (by kernel_rfl) ?_
 intro a8 hF7; clear hF0
 refine wpList_nil ?_
 have hS9:=hS6.drop
 clear hS6
 refine thenN (wp_seq (wp_region_lit ?_))
 refine ev_runs 2 hF7 (l':=[(6,.slice p1 L1.length c2),(5,nP b0 0),(0,nP b0 0),(1,.slice p1 L1.length c2)]) (w':=w) (by kernel_rfl) ?_
 intro a11 hF10; clear hF7
 refine ev_call 61 #[nP b0 0,.slice p1 L1.length c2,.bool true] hF10 rfl rfl (by kernel_rfl) rfl (by kernel_rfl) (fun w=>by kernel_rfl) ?_
 obtain ⟨L12,s13,hx14,hm15⟩:=bind2E hm; clear hm
 refine (live_those.ok hS9 hx14).mono ?_
 rintro _ w16 ⟨z20,rfl,hS18⟩ a17 hF19; clear hF10 hS9
 obtain ⟨hl25,p22,c23,rfl,hp24⟩:=St.shape hS18 2 rfl
 refine ev_runK 1 hF19 [4] (l':=[(4,.slice p22 L12.length c23)]) (w':=w16) (by kernel_rfl) ?_
 intro a27 hF26; clear hF19
 refine wpList_nil (thenN ?_)
 refine wp_ret ?_
 simp only [Option.some.injEq,Prod.mk.injEq] at hm15
 obtain ⟨rfl,rfl⟩:=hm15
 refine ev_ret hF26 [4] (.slice p22 L12.length c23) rfl rfl rfl ?_
 exact ⟨_,rfl,hS18⟩
def live_Lost.m (k:Nat) (s0:HSt) (L1:List Int):Option (List Int×HSt):=bind2 (live_those.m k s0 L1 (false)) fun L12 s13=>some (L12,s13)
theorem live_Lost.ok {w0 w:World} {F0:List Nat} {ps:List Piece} {k:Nat} {b0 ab0:Nat} {s0:HSt} {v1:Value} {L1:List Int} {r0:List Int} {t0:HSt} (hS:St w0 F0 (HeapP b0 ab0 s0::RowP (v1) L1::ps) w) (hm:live_Lost.m k s0 L1=some (r0,t0)) :
    Calls Try.prog 31 #[nP b0 0,v1] w fun e w'=>∃ vr0,e=.returned (vr0)∧St w0 F0 (HeapP b0 ab0 t0::RowP (v1) L1::RowP vr0 r0::ps) w':=by
 refine ev_enterL 8 [nP b0 0,v1] Try.func31 rfl rfl (by simp) ?_
 intro a hF
 have hF0:Fr 8 a [(0,nP b0 0),(1,v1)]:=hF; clear hF
 unfold live_Lost.m at hm
 obtain ⟨hl4,p1,c2,rfl,hp3⟩:=St.shape hS 1 rfl
 refine wp_seq (wp_region_lit ?_)
 have hS6:St w0 F0 (RowP (.slice none 0 0) []::HeapP b0 ab0 s0::RowP (.slice p1 L1.length c2) L1::ps) w:=St.nil hS
 refine ev_runK 1 hF0 [0,1] (l':=[(0,nP b0 0),(1,.slice p1 L1.length c2)]) (w':=w) (by kernel_rfl) ?_
 intro a8 hF7; clear hF0
 refine wpList_nil ?_
 have hS9:=hS6.drop
 clear hS6
 refine thenN (wp_seq (wp_region_lit ?_))
 refine ev_runs 2 hF7 (l':=[(6,.slice p1 L1.length c2),(5,nP b0 0),(0,nP b0 0),(1,.slice p1 L1.length c2)]) (w':=w) (by kernel_rfl) ?_
 intro a11 hF10; clear hF7
 refine ev_call 61 #[nP b0 0,.slice p1 L1.length c2,.bool false] hF10 rfl rfl (by kernel_rfl) rfl (by kernel_rfl) (fun w=>by kernel_rfl) ?_
 obtain ⟨L12,s13,hx14,hm15⟩:=bind2E hm; clear hm
 refine (live_those.ok hS9 hx14).mono ?_
 rintro _ w16 ⟨z20,rfl,hS18⟩ a17 hF19; clear hF10 hS9
 obtain ⟨hl25,p22,c23,rfl,hp24⟩:=St.shape hS18 2 rfl
 refine ev_runK 1 hF19 [4] (l':=[(4,.slice p22 L12.length c23)]) (w':=w16) (by kernel_rfl) ?_
 intro a27 hF26; clear hF19
 refine wpList_nil (thenN ?_)
 refine wp_ret ?_
 simp only [Option.some.injEq,Prod.mk.injEq] at hm15
 obtain ⟨rfl,rfl⟩:=hm15
 refine ev_ret hF26 [4] (.slice p22 L12.length c23) rfl rfl rfl ?_
 exact ⟨_,rfl,hS18⟩
def live_Broken.l6b (L26:List Int) (L43:List Int) (x45:Int) (rec48:HSt→List Int→Int→Option (List Int×HSt)) (s74:HSt) (L92:List Int) (rec111:Int→Option (List Int×HSt)) (x108:Int):Option (List Int×HSt):=(if (decide (x108<(L92.length:Int))) then (if (inR x108 L92.length) then (if ((aKind s74.a.c (atI L92 x108)) == 0) then bind1 (pushM L43 (atI L26 x45)) fun L144=>rec48 s74 L144 (IntKind.i64.wrap (x45+1)) else rec111 (IntKind.i64.wrap (x108+1))) else none) else rec48 s74 L43 (IntKind.i64.wrap (x45+1)))
def live_Broken.l6 (L26:List Int) (L43:List Int) (x45:Int) (rec48:HSt→List Int→Int→Option (List Int×HSt)) (s74:HSt) (L92:List Int):Nat→Int→Option (List Int×HSt)
  | 0=>fun _=>none
  | kI+1=>live_Broken.l6b L26 L43 x45 rec48 s74 L92 (live_Broken.l6 L26 L43 x45 rec48 s74 L92 kI)
def live_Broken.l7b (L26:List Int) (L43:List Int) (x45:Int) (rec48:HSt→List Int→Int→Option (List Int×HSt)) (s74:HSt) (L180:List Int) (rec199:Int→Option (List Int×HSt)) (x196:Int):Option (List Int×HSt):=(if (decide (x196<(L180.length:Int))) then (if (inR x196 L180.length) then (if ((aKind s74.a.c (atI L180 x196)) == 0) then bind1 (pushM L43 (atI L26 x45)) fun L232=>rec48 s74 L232 (IntKind.i64.wrap (x45+1)) else rec199 (IntKind.i64.wrap (x196+1))) else none) else rec48 s74 L43 (IntKind.i64.wrap (x45+1)))
def live_Broken.l7 (L26:List Int) (L43:List Int) (x45:Int) (rec48:HSt→List Int→Int→Option (List Int×HSt)) (s74:HSt) (L180:List Int):Nat→Int→Option (List Int×HSt)
  | 0=>fun _=>none
  | kI+1=>live_Broken.l7b L26 L43 x45 rec48 s74 L180 (live_Broken.l7 L26 L43 x45 rec48 s74 L180 kI)
def live_Broken.l5b (k:Nat) (L26:List Int) (rec48:HSt→List Int→Int→Option (List Int×HSt)) (s42:HSt) (L43:List Int) (x45:Int):Option (List Int×HSt):=(if (decide (x45<(L26.length:Int))) then (if (inR x45 L26.length) then bind2 (live_look.m k s42 (atI L26 x45)) fun o73 s74=>optE o73 (bind1 (live_places.m k []) fun L92=>live_Broken.l6 L26 L43 x45 rec48 s74 L92 k 0) fun L83=>bind1 (live_places.m k L83) fun L180=>live_Broken.l7 L26 L43 x45 rec48 s74 L180 k 0 else none) else some (L43,s42))
def live_Broken.l5 (k:Nat) (L26:List Int):Nat→HSt→List Int→Int→Option (List Int×HSt)
  | 0=>fun _ _ _=>none
  | kI+1=>live_Broken.l5b k L26 (live_Broken.l5 k L26 kI)
def live_Broken.m (k:Nat) (s0:HSt) (L1:List Int):Option (List Int×HSt):=bind2 (live_Reach.m k s0 L1) fun L26 s27=>live_Broken.l5 k L26 k s27 [] 0
theorem live_Broken.ok {w0 w:World} {F0:List Nat} {ps:List Piece} {k:Nat} {b0 ab0:Nat} {s0:HSt} {v1:Value} {L1:List Int} {r0:List Int} {t0:HSt} (hS:St w0 F0 (HeapP b0 ab0 s0::RowP (v1) L1::ps) w) (hm:live_Broken.m k s0 L1=some (r0,t0)) :
    Calls Try.prog 33 #[nP b0 0,v1] w fun e w'=>∃ vr0,e=.returned (vr0)∧St w0 F0 (HeapP b0 ab0 t0::RowP (v1) L1::RowP vr0 r0::ps) w':=by
 refine ev_enterL 48 [nP b0 0,v1] Try.func33 rfl rfl (by simp) ?_
 intro a hF
 have hF0:Fr 48 a [(0,nP b0 0),(1,v1)]:=hF; clear hF
 unfold live_Broken.m at hm
 obtain ⟨hl4,p1,c2,rfl,hp3⟩:=St.shape hS 1 rfl
 refine wp_seq (wp_region_lit ?_)
 have hS6:St w0 F0 (RowP (.slice none 0 0) []::HeapP b0 ab0 s0::RowP (.slice p1 L1.length c2) L1::ps) w:=St.nil hS
 refine ev_runK 1 hF0 [0,1] (l':=[(0,nP b0 0),(1,.slice p1 L1.length c2)]) (w':=w) (by kernel_rfl) ?_
 intro a8 hF7; clear hF0
 refine wpList_nil ?_
 have hS9:=hS6.drop
 clear hS6
 refine thenN (wp_seq (wp_region_lit ?_))
 have hS11:St w0 F0 (RowP (.slice none 0 0) []::HeapP b0 ab0 s0::RowP (.slice p1 L1.length c2) L1::ps) w:=St.nil hS9
 clear hS9
 refine ev_runs 1 hF7 (l':=[(5,.slice none 0 0),(0,nP b0 0),(1,.slice p1 L1.length c2)]) (w':=w) (by kernel_rfl) ?_
 intro a13 hF12; clear hF7
 refine wpList_nil (thenN (wp_seq (wp_region_lit ?_)))
 refine ev_runs 1 hF12 (l':=[(13,nP b0 0),(5,.slice none 0 0),(0,nP b0 0),(1,.slice p1 L1.length c2)]) (w':=w) (by kernel_rfl) ?_
 intro a15 hF14; clear hF12
 have hS16:=hS11.pick1
 clear hS11
 refine ev_call 55 #[nP b0 0] hF14 rfl rfl (by kernel_rfl) rfl (by kernel_rfl) (fun w=>by kernel_rfl) ?_
 refine (p_Arena hS16).mono ?_
 rintro _ w17 ⟨rfl,hS19⟩ a18 hF20; clear hF14 hS16
 refine ev_runK 1 hF20 [0,1,5,6] (l':=[(6,nP ab0 0),(5,.slice none 0 0),(0,nP b0 0),(1,.slice p1 L1.length c2)]) (w':=w17) (by kernel_rfl) ?_
 intro a22 hF21; clear hF20
 refine wpList_nil (thenN (wp_seq (wp_seq (wp_region_lit ?_))))
 refine ev_runs 2 hF21 (l':=[(16,.slice p1 L1.length c2),(15,nP b0 0),(6,nP ab0 0),(5,.slice none 0 0),(0,nP b0 0),(1,.slice p1 L1.length c2)]) (w':=w17) (by kernel_rfl) ?_
 intro a24 hF23; clear hF21
 have hS25:=hS19.pick2.pick1
 clear hS19
 refine ev_call 29 #[nP b0 0,.slice p1 L1.length c2] hF23 rfl rfl (by kernel_rfl) rfl (by kernel_rfl) (fun w=>by kernel_rfl) ?_
 obtain ⟨L26,s27,hx28,hm29⟩:=bind2E hm; clear hm
 refine (live_Reach.ok hS25 hx28).mono ?_
 rintro _ w30 ⟨z34,rfl,hS32⟩ a31 hF33; clear hF23 hS25
 obtain ⟨hl39,p36,c37,rfl,hp38⟩:=St.shape hS32 2 rfl
 refine ev_runK 2 hF33 [5,6,17,18,19] (l':=[(19,nI 0),(18,nI ((L26.length:Int))),(17,.slice p36 L26.length c37),(6,nP ab0 0),(5,.slice none 0 0)]) (w':=w30) (by kernel_rfl) ?_
 intro a41 hF40; clear hF33
 refine wpList_nil (thenN ?_)
 refine wp_block ?_
 refine wp_loop_ghost (fun kI aI wI=>∃ (s42:HSt) (v44:Value) (L43:List Int) (x45:Int),Fr 48 aI [(19,nI x45),(18,nI ((L26.length:Int))),(17,.slice p36 L26.length c37),(6,nP ab0 0),(5,v44)]∧St w0 F0 (HeapP b0 ab0 s42::RowP (.slice p1 L1.length c2) L1::RowP (.slice p36 L26.length c37) L26::RowP (v44) L43::ps) wI∧live_Broken.l5 k L26 kI s42 L43 x45=some (r0,t0)) k ⟨s27,.slice none 0 0,[],0,hF40,hS32,hm29⟩ ?_
 rintro k46 a47 w48 ⟨s42,v44,L43,x45,hF49,hS50,hm51⟩
 clear hF40 hS32 hm29
 rcases k46 with _ | k46
 · cases hm51
 have hm52:live_Broken.l5b k L26 (live_Broken.l5 k L26 k46) s42 L43 x45=some (r0,t0):=hm51
 clear hm51
 unfold live_Broken.l5b at hm52
 obtain ⟨hl56,p53,c54,rfl,hp55⟩:=St.shape hS50 3 rfl
 refine wp_seq (wp_region_lit ?_)
 refine ev_runs 1 hF49 (l':=[(20,.bool (decide (x45<(L26.length:Int)))),(19,nI x45),(18,nI ((L26.length:Int))),(17,.slice p36 L26.length c37),(6,nP ab0 0),(5,.slice p53 L43.length c54)]) (w':=w48) (by kernel_rfl) ?_
 intro a58 hF57; clear hF49
 refine wpList_nil (thenN (wp_seq ?_))
 cases hc59:(decide (x45<(L26.length:Int)))
 case true =>
  rw [hc59] at hF57
  have hm60:=ifYes hc59 hm52; clear hm52
  refine ev_condT hF57 rfl rfl ?_
  refine wp_skip ?_
  have hF61:=hF57.keep [5,6,17,18,19]
  clear hF57
  refine thenN (wp_seq ?_)
  refine wp_block ?_
  refine wp_seq (wp_region_lit ?_)
  obtain ⟨hc62,hm63⟩:=ifTE hm60; clear hm60
  obtain ⟨g64,rfl⟩:=hp38.resolve_left (by have:=inR_spec hc62; omega)
  refine ev_one (nP g64 (x45.toNat)) w48 hF61 (by kernel_rfl) rfl (by kernel_rfl) (run_idx rfl rfl rfl rfl rfl (inR_spec hc62).1 (inR_spec hc62).2 _) (l':=[(21,nP g64 (x45.toNat)),(19,nI x45),(18,nI ((L26.length:Int))),(17,nS g64 L26 c37),(6,nP ab0 0),(5,.slice p53 L43.length c54)]) (by kernel_rfl) ?_
  intro a66 hF65; clear hF61
  refine ev_one (nI (atI L26 x45)) w48 hF65 (by kernel_rfl) rfl (by kernel_rfl) (run_load1 rfl rfl rfl (hS50.atI 2 rfl hc62)) (l':=[(22,nI (atI L26 x45)),(21,nP g64 (x45.toNat)),(19,nI x45),(18,nI ((L26.length:Int))),(17,nS g64 L26 c37),(6,nP ab0 0),(5,.slice p53 L43.length c54)]) (by kernel_rfl) ?_
  intro a68 hF67; clear hF65
  refine ev_runK 1 hF67 [5,6,8,17,18,19] (l':=[(8,nI (atI L26 x45)),(19,nI x45),(18,nI ((L26.length:Int))),(17,nS g64 L26 c37),(6,nP ab0 0),(5,.slice p53 L43.length c54)]) (w':=w48) (by kernel_rfl) ?_
  intro a70 hF69; clear hF67
  refine wpList_nil (thenN (wp_seq (wp_region_lit ?_)))
  refine ev_runs 2 hF69 (l':=[(25,nI (atI L26 x45)),(24,nP ab0 0),(8,nI (atI L26 x45)),(19,nI x45),(18,nI ((L26.length:Int))),(17,nS g64 L26 c37),(6,nP ab0 0),(5,.slice p53 L43.length c54)]) (w':=w48) (by kernel_rfl) ?_
  intro a72 hF71; clear hF69
  refine ev_call 65 #[nP ab0 0,nI (atI L26 x45)] hF71 rfl rfl (by kernel_rfl) rfl (by kernel_rfl) (fun w=>by kernel_rfl) ?_
  obtain ⟨o73,s74,hx75,hm76⟩:=bind2E hm63; clear hm63
  refine (live_look.ok hS50 hx75).mono ?_
  rintro _ w77 ⟨z81,rfl,hS79⟩ a78 hF80; clear hF71 hS50
  cases o73 with
  | none =>
   have hm84:=optN hm76; clear hm76
   have hS86:St w0 F0 (RowP (.slice none 0 0) []::HeapP b0 ab0 s74::RowP (z81) (Option.getD (none:Option (List Int)) [])::RowP (.slice p1 L1.length c2) L1::RowP (nS g64 L26 c37) L26::RowP (.slice p53 L43.length c54) L43::ps) w77:=St.nil hS79
   clear hS79
   refine ev_runK 6 hF80 [5,6,8,9,17,18,19] (l':=[(9,.slice none 0 0),(8,nI (atI L26 x45)),(19,nI x45),(18,nI ((L26.length:Int))),(17,nS g64 L26 c37),(6,nP ab0 0),(5,.slice p53 L43.length c54)]) (w':=w77) (by kernel_rfl) ?_
   intro a88 hF87; clear hF80
   refine wpList_nil ?_
   have hS89:=hS86.pick2.drop
   clear hS86
   refine thenN (wp_seq (wp_region_lit ?_))
   refine ev_runs 1 hF87 (l':=[(30,.slice none 0 0),(9,.slice none 0 0),(8,nI (atI L26 x45)),(19,nI x45),(18,nI ((L26.length:Int))),(17,nS g64 L26 c37),(6,nP ab0 0),(5,.slice p53 L43.length c54)]) (w':=w77) (by kernel_rfl) ?_
   intro a91 hF90; clear hF87
   refine ev_call 66 #[.slice none 0 0] hF90 rfl rfl (by kernel_rfl) rfl (by kernel_rfl) (fun w=>by kernel_rfl) ?_
   obtain ⟨L92,hx93,hm94⟩:=bind1E hm84; clear hm84
   refine (live_places.ok hS89 hx93).mono ?_
   rintro _ w95 ⟨z99,rfl,hS97⟩ a96 hF98; clear hF90 hS89
   obtain ⟨hl104,p101,c102,rfl,hp103⟩:=St.shape hS97 1 rfl
   refine ev_runK 2 hF98 [5,6,8,17,18,19,31,32,33] (l':=[(33,nI 0),(32,nI ((L92.length:Int))),(31,.slice p101 L92.length c102),(8,nI (atI L26 x45)),(19,nI x45),(18,nI ((L26.length:Int))),(17,nS g64 L26 c37),(6,nP ab0 0),(5,.slice p53 L43.length c54)]) (w':=w95) (by kernel_rfl) ?_
   intro a106 hF105; clear hF98
   refine wpList_nil ?_
   have hS107:=hS97.drop
   clear hS97
   refine thenN ?_
   refine wp_block ?_
   refine wp_loop_ghost (fun kI aI wI=>∃ (x108:Int),Fr 48 aI [(33,nI x108),(32,nI ((L92.length:Int))),(31,.slice p101 L92.length c102),(8,nI (atI L26 x45)),(19,nI x45),(18,nI ((L26.length:Int))),(17,nS g64 L26 c37),(6,nP ab0 0),(5,.slice p53 L43.length c54)]∧St w0 F0 (RowP (.slice p101 L92.length c102) L92::HeapP b0 ab0 s74::RowP (.slice p1 L1.length c2) L1::RowP (nS g64 L26 c37) L26::RowP (.slice p53 L43.length c54) L43::ps) wI∧live_Broken.l6 L26 L43 x45 (live_Broken.l5 k L26 k46) s74 L92 kI x108=some (r0,t0)) k ⟨0,hF105,hS107,hm94⟩ ?_
   rintro k109 a110 w111 ⟨x108,hF112,hS113,hm114⟩
   clear hF105 hS107 hm94
   rcases k109 with _ | k109
   · cases hm114
   have hm115:live_Broken.l6b L26 L43 x45 (live_Broken.l5 k L26 k46) s74 L92 (live_Broken.l6 L26 L43 x45 (live_Broken.l5 k L26 k46) s74 L92 k109) x108=some (r0,t0):=hm114
   clear hm114
   unfold live_Broken.l6b at hm115
   refine wp_seq (wp_region_lit ?_)
   refine ev_runs 1 hF112 (l':=[(34,.bool (decide (x108<(L92.length:Int)))),(33,nI x108),(32,nI ((L92.length:Int))),(31,.slice p101 L92.length c102),(8,nI (atI L26 x45)),(19,nI x45),(18,nI ((L26.length:Int))),(17,nS g64 L26 c37),(6,nP ab0 0),(5,.slice p53 L43.length c54)]) (w':=w111) (by kernel_rfl) ?_
   intro a117 hF116; clear hF112
   refine wpList_nil (thenN (wp_seq ?_))
   cases hc118:(decide (x108<(L92.length:Int)))
   case true =>
    rw [hc118] at hF116
    have hm119:=ifYes hc118 hm115; clear hm115
    refine ev_condT hF116 rfl rfl ?_
    refine wp_skip ?_
    have hF120:=hF116.keep [5,6,8,17,18,19,31,32,33]
    clear hF116
    refine thenN (wp_seq ?_)
    refine wp_block ?_
    refine wp_seq (wp_region_lit ?_)
    obtain ⟨hc121,hm122⟩:=ifTE hm119; clear hm119
    obtain ⟨g123,rfl⟩:=hp103.resolve_left (by have:=inR_spec hc121; omega)
    refine ev_one (nP g123 (x108.toNat)) w111 hF120 (by kernel_rfl) rfl (by kernel_rfl) (run_idx rfl rfl rfl rfl rfl (inR_spec hc121).1 (inR_spec hc121).2 _) (l':=[(35,nP g123 (x108.toNat)),(33,nI x108),(32,nI ((L92.length:Int))),(31,nS g123 L92 c102),(8,nI (atI L26 x45)),(19,nI x45),(18,nI ((L26.length:Int))),(17,nS g64 L26 c37),(6,nP ab0 0),(5,.slice p53 L43.length c54)]) (by kernel_rfl) ?_
    intro a125 hF124; clear hF120
    refine ev_one (nI (atI L92 x108)) w111 hF124 (by kernel_rfl) rfl (by kernel_rfl) (run_load1 rfl rfl rfl (hS113.atI 0 rfl hc121)) (l':=[(36,nI (atI L92 x108)),(35,nP g123 (x108.toNat)),(33,nI x108),(32,nI ((L92.length:Int))),(31,nS g123 L92 c102),(8,nI (atI L26 x45)),(19,nI x45),(18,nI ((L26.length:Int))),(17,nS g64 L26 c37),(6,nP ab0 0),(5,.slice p53 L43.length c54)]) (by kernel_rfl) ?_
    intro a127 hF126; clear hF124
    refine ev_runK 1 hF126 [5,6,8,12,17,18,19,31,32,33] (l':=[(12,nI (atI L92 x108)),(33,nI x108),(32,nI ((L92.length:Int))),(31,nS g123 L92 c102),(8,nI (atI L26 x45)),(19,nI x45),(18,nI ((L26.length:Int))),(17,nS g64 L26 c37),(6,nP ab0 0),(5,.slice p53 L43.length c54)]) (w':=w111) (by kernel_rfl) ?_
    intro a129 hF128; clear hF126
    refine wpList_nil (thenN (wp_seq (wp_region_lit ?_)))
    refine ev_runs 2 hF128 (l':=[(38,nI (atI L92 x108)),(37,nP ab0 0),(12,nI (atI L92 x108)),(33,nI x108),(32,nI ((L92.length:Int))),(31,nS g123 L92 c102),(8,nI (atI L26 x45)),(19,nI x45),(18,nI ((L26.length:Int))),(17,nS g64 L26 c37),(6,nP ab0 0),(5,.slice p53 L43.length c54)]) (w':=w111) (by kernel_rfl) ?_
    intro a131 hF130; clear hF128
    have hS132:=hS113.pick1
    clear hS113
    refine ev_call 21 #[nP ab0 0,nI (atI L92 x108)] hF130 rfl rfl (by kernel_rfl) rfl (by kernel_rfl) (fun w=>by kernel_rfl) ?_
    refine (p_Kind hS132).mono ?_
    rintro _ w133 ⟨rfl,hS135⟩ a134 hF136; clear hF130 hS132
    refine ev_runK 1 hF136 [5,6,8,17,18,19,31,32,33,40] (l':=[(40,.bool ((aKind s74.a.c (atI L92 x108)) == 0)),(33,nI x108),(32,nI ((L92.length:Int))),(31,nS g123 L92 c102),(8,nI (atI L26 x45)),(19,nI x45),(18,nI ((L26.length:Int))),(17,nS g64 L26 c37),(6,nP ab0 0),(5,.slice p53 L43.length c54)]) (w':=w133) (by kernel_rfl) ?_
    intro a138 hF137; clear hF136
    refine wpList_nil (thenN ?_)
    cases hc139:((aKind s74.a.c (atI L92 x108)) == 0)
    case true =>
     rw [hc139] at hF137
     have hm140:=ifYes hc139 hm122; clear hm122
     refine ev_condT hF137 rfl rfl ?_
     refine wp_seq (wp_region_lit ?_)
     refine ev_runs 3 hF137 (l':=[(43,.slice (some ⟨w133.heap.size,0,none⟩) 1 1),(42,nI (atI L26 x45)),(41,.slice p53 L43.length c54),(40,.bool true),(33,nI x108),(32,nI ((L92.length:Int))),(31,nS g123 L92 c102),(8,nI (atI L26 x45)),(19,nI x45),(18,nI ((L26.length:Int))),(17,nS g64 L26 c37),(6,nP ab0 0),(5,.slice p53 L43.length c54)]) (w':=w133.alloc (.cells #[nI (atI L26 x45)] 3)) (by kernel_rfl) ?_
     intro a142 hF141; clear hF137
     have hS143:=hS135.pick4
     clear hS135
     obtain ⟨L144,hx145,hm146⟩:=bind1E hm140; clear hm140
     refine ev_push 44 (.tmp 41) (.tmp 43) hF141 rfl rfl rfl rfl rfl rfl rfl rfl hS143 hx145 ?_
     intro g147 c148 w149 a150 hS151 hF152; clear hF141 hS143
     refine ev_runK 1 hF152 [5,6,17,18,19] (l':=[(5,nS g147 L144 c148),(19,nI x45),(18,nI ((L26.length:Int))),(17,nS g64 L26 c37),(6,nP ab0 0)]) (w':=w149) (by kernel_rfl) ?_
     intro a154 hF153; clear hF152
     refine wpList_nil ?_
     have hS155:=hS151.pick2.drop
     clear hS151
     refine thenN ?_
     refine wp_exit ?_
     refine blockX (by decide) ?_
     refine thenE ?_
     refine thenE ?_
     refine blockE ?_
     refine blockN ?_
     refine thenN (wp_region_lit ?_)
     refine ev_runK 2 hF153 [5,6,17,18,19] (l':=[(19,nI (IntKind.i64.wrap (x45+1))),(5,nS g147 L144 c148),(18,nI ((L26.length:Int))),(17,nS g64 L26 c37),(6,nP ab0 0)]) (w':=w149) (by kernel_rfl) ?_
     intro a157 hF156; clear hF153
     refine wpList_nil ?_
     have hF158:Fr 48 a157 [(19,nI (IntKind.i64.wrap (x45+1))),(18,nI ((L26.length:Int))),(17,nS g64 L26 c37),(6,nP ab0 0),(5,nS g147 L144 c148)]:=Fr.re hF156 (by kernel_rfl)
     clear hF156
     have hS159:=hS155.pick3.pick3.pick3
     clear hS155
     exact thenN ⟨k46,Nat.lt_succ_self _,s74,nS g147 L144 c148,L144,IntKind.i64.wrap (x45+1),hF158,hS159,hm146⟩
    rw [hc139] at hF137
    have hm160:=ifNot hc139 hm122; clear hm122
    refine ev_condF hF137 rfl rfl ?_
    refine wp_skip ?_
    have hF161:=hF137.keep [5,6,8,17,18,19,31,32,33]
    clear hF137
    refine blockN ?_
    refine thenN (wp_region_lit ?_)
    refine ev_runK 2 hF161 [5,6,8,17,18,19,31,32,33] (l':=[(33,nI (IntKind.i64.wrap (x108+1))),(32,nI ((L92.length:Int))),(31,nS g123 L92 c102),(8,nI (atI L26 x45)),(19,nI x45),(18,nI ((L26.length:Int))),(17,nS g64 L26 c37),(6,nP ab0 0),(5,.slice p53 L43.length c54)]) (w':=w133) (by kernel_rfl) ?_
    intro a163 hF162; clear hF161
    refine wpList_nil ?_
    have hS164:=hS135.pick4.pick4.pick4.pick3.pick4
    clear hS135
    exact thenN ⟨k109,Nat.lt_succ_self _,IntKind.i64.wrap (x108+1),hF162,hS164,hm160⟩
   rw [hc118] at hF116
   have hm165:=ifNot hc118 hm115; clear hm115
   refine ev_condF hF116 rfl rfl ?_
   refine wp_exit ?_
   refine thenE ?_
   refine thenE ?_
   refine blockE ?_
   refine blockN ?_
   refine thenN (wp_region_lit ?_)
   refine ev_runK 2 hF116 [5,6,17,18,19] (l':=[(19,nI (IntKind.i64.wrap (x45+1))),(18,nI ((L26.length:Int))),(17,nS g64 L26 c37),(6,nP ab0 0),(5,.slice p53 L43.length c54)]) (w':=w111) (by kernel_rfl) ?_
   intro a167 hF166; clear hF116
   refine wpList_nil ?_
   have hS168:=hS113.drop
   clear hS113
   exact thenN ⟨k46,Nat.lt_succ_self _,s74,.slice p53 L43.length c54,L43,IntKind.i64.wrap (x45+1),hF166,hS168,hm165⟩
  | some L83 =>
   have hm169:=optS hm76; clear hm76
   have hS170:St w0 F0 (HeapP b0 ab0 s74::RowP (z81) L83::RowP (.slice p1 L1.length c2) L1::RowP (nS g64 L26 c37) L26::RowP (.slice p53 L43.length c54) L43::ps) w77:=hS79
   clear hS79
   obtain ⟨hl174,p171,c172,rfl,hp173⟩:=St.shape hS170 1 rfl
   refine ev_runK 6 hF80 [5,6,8,9,17,18,19] (l':=[(9,.slice p171 L83.length c172),(8,nI (atI L26 x45)),(19,nI x45),(18,nI ((L26.length:Int))),(17,nS g64 L26 c37),(6,nP ab0 0),(5,.slice p53 L43.length c54)]) (w':=w77) (by kernel_rfl) ?_
   intro a176 hF175; clear hF80
   refine wpList_nil (thenN (wp_seq (wp_region_lit ?_)))
   refine ev_runs 1 hF175 (l':=[(30,.slice p171 L83.length c172),(9,.slice p171 L83.length c172),(8,nI (atI L26 x45)),(19,nI x45),(18,nI ((L26.length:Int))),(17,nS g64 L26 c37),(6,nP ab0 0),(5,.slice p53 L43.length c54)]) (w':=w77) (by kernel_rfl) ?_
   intro a178 hF177; clear hF175
   have hS179:=hS170.pick1
   clear hS170
   refine ev_call 66 #[.slice p171 L83.length c172] hF177 rfl rfl (by kernel_rfl) rfl (by kernel_rfl) (fun w=>by kernel_rfl) ?_
   obtain ⟨L180,hx181,hm182⟩:=bind1E hm169; clear hm169
   refine (live_places.ok hS179 hx181).mono ?_
   rintro _ w183 ⟨z187,rfl,hS185⟩ a184 hF186; clear hF177 hS179
   obtain ⟨hl192,p189,c190,rfl,hp191⟩:=St.shape hS185 1 rfl
   refine ev_runK 2 hF186 [5,6,8,17,18,19,31,32,33] (l':=[(33,nI 0),(32,nI ((L180.length:Int))),(31,.slice p189 L180.length c190),(8,nI (atI L26 x45)),(19,nI x45),(18,nI ((L26.length:Int))),(17,nS g64 L26 c37),(6,nP ab0 0),(5,.slice p53 L43.length c54)]) (w':=w183) (by kernel_rfl) ?_
   intro a194 hF193; clear hF186
   refine wpList_nil ?_
   have hS195:=hS185.drop
   clear hS185
   refine thenN ?_
   refine wp_block ?_
   refine wp_loop_ghost (fun kI aI wI=>∃ (x196:Int),Fr 48 aI [(33,nI x196),(32,nI ((L180.length:Int))),(31,.slice p189 L180.length c190),(8,nI (atI L26 x45)),(19,nI x45),(18,nI ((L26.length:Int))),(17,nS g64 L26 c37),(6,nP ab0 0),(5,.slice p53 L43.length c54)]∧St w0 F0 (RowP (.slice p189 L180.length c190) L180::HeapP b0 ab0 s74::RowP (.slice p1 L1.length c2) L1::RowP (nS g64 L26 c37) L26::RowP (.slice p53 L43.length c54) L43::ps) wI∧live_Broken.l7 L26 L43 x45 (live_Broken.l5 k L26 k46) s74 L180 kI x196=some (r0,t0)) k ⟨0,hF193,hS195,hm182⟩ ?_
   rintro k197 a198 w199 ⟨x196,hF200,hS201,hm202⟩
   clear hF193 hS195 hm182
   rcases k197 with _ | k197
   · cases hm202
   have hm203:live_Broken.l7b L26 L43 x45 (live_Broken.l5 k L26 k46) s74 L180 (live_Broken.l7 L26 L43 x45 (live_Broken.l5 k L26 k46) s74 L180 k197) x196=some (r0,t0):=hm202
   clear hm202
   unfold live_Broken.l7b at hm203
   refine wp_seq (wp_region_lit ?_)
   refine ev_runs 1 hF200 (l':=[(34,.bool (decide (x196<(L180.length:Int)))),(33,nI x196),(32,nI ((L180.length:Int))),(31,.slice p189 L180.length c190),(8,nI (atI L26 x45)),(19,nI x45),(18,nI ((L26.length:Int))),(17,nS g64 L26 c37),(6,nP ab0 0),(5,.slice p53 L43.length c54)]) (w':=w199) (by kernel_rfl) ?_
   intro a205 hF204; clear hF200
   refine wpList_nil (thenN (wp_seq ?_))
   cases hc206:(decide (x196<(L180.length:Int)))
   case true =>
    rw [hc206] at hF204
    have hm207:=ifYes hc206 hm203; clear hm203
    refine ev_condT hF204 rfl rfl ?_
    refine wp_skip ?_
    have hF208:=hF204.keep [5,6,8,17,18,19,31,32,33]
    clear hF204
    refine thenN (wp_seq ?_)
    refine wp_block ?_
    refine wp_seq (wp_region_lit ?_)
    obtain ⟨hc209,hm210⟩:=ifTE hm207; clear hm207
    obtain ⟨g211,rfl⟩:=hp191.resolve_left (by have:=inR_spec hc209; omega)
    refine ev_one (nP g211 (x196.toNat)) w199 hF208 (by kernel_rfl) rfl (by kernel_rfl) (run_idx rfl rfl rfl rfl rfl (inR_spec hc209).1 (inR_spec hc209).2 _) (l':=[(35,nP g211 (x196.toNat)),(33,nI x196),(32,nI ((L180.length:Int))),(31,nS g211 L180 c190),(8,nI (atI L26 x45)),(19,nI x45),(18,nI ((L26.length:Int))),(17,nS g64 L26 c37),(6,nP ab0 0),(5,.slice p53 L43.length c54)]) (by kernel_rfl) ?_
    intro a213 hF212; clear hF208
    refine ev_one (nI (atI L180 x196)) w199 hF212 (by kernel_rfl) rfl (by kernel_rfl) (run_load1 rfl rfl rfl (hS201.atI 0 rfl hc209)) (l':=[(36,nI (atI L180 x196)),(35,nP g211 (x196.toNat)),(33,nI x196),(32,nI ((L180.length:Int))),(31,nS g211 L180 c190),(8,nI (atI L26 x45)),(19,nI x45),(18,nI ((L26.length:Int))),(17,nS g64 L26 c37),(6,nP ab0 0),(5,.slice p53 L43.length c54)]) (by kernel_rfl) ?_
    intro a215 hF214; clear hF212
    refine ev_runK 1 hF214 [5,6,8,12,17,18,19,31,32,33] (l':=[(12,nI (atI L180 x196)),(33,nI x196),(32,nI ((L180.length:Int))),(31,nS g211 L180 c190),(8,nI (atI L26 x45)),(19,nI x45),(18,nI ((L26.length:Int))),(17,nS g64 L26 c37),(6,nP ab0 0),(5,.slice p53 L43.length c54)]) (w':=w199) (by kernel_rfl) ?_
    intro a217 hF216; clear hF214
    refine wpList_nil (thenN (wp_seq (wp_region_lit ?_)))
    refine ev_runs 2 hF216 (l':=[(38,nI (atI L180 x196)),(37,nP ab0 0),(12,nI (atI L180 x196)),(33,nI x196),(32,nI ((L180.length:Int))),(31,nS g211 L180 c190),(8,nI (atI L26 x45)),(19,nI x45),(18,nI ((L26.length:Int))),(17,nS g64 L26 c37),(6,nP ab0 0),(5,.slice p53 L43.length c54)]) (w':=w199) (by kernel_rfl) ?_
    intro a219 hF218; clear hF216
    have hS220:=hS201.pick1
    clear hS201
    refine ev_call 21 #[nP ab0 0,nI (atI L180 x196)] hF218 rfl rfl (by kernel_rfl) rfl (by kernel_rfl) (fun w=>by kernel_rfl) ?_
    refine (p_Kind hS220).mono ?_
    rintro _ w221 ⟨rfl,hS223⟩ a222 hF224; clear hF218 hS220
    refine ev_runK 1 hF224 [5,6,8,17,18,19,31,32,33,40] (l':=[(40,.bool ((aKind s74.a.c (atI L180 x196)) == 0)),(33,nI x196),(32,nI ((L180.length:Int))),(31,nS g211 L180 c190),(8,nI (atI L26 x45)),(19,nI x45),(18,nI ((L26.length:Int))),(17,nS g64 L26 c37),(6,nP ab0 0),(5,.slice p53 L43.length c54)]) (w':=w221) (by kernel_rfl) ?_
    intro a226 hF225; clear hF224
    refine wpList_nil (thenN ?_)
    cases hc227:((aKind s74.a.c (atI L180 x196)) == 0)
    case true =>
     rw [hc227] at hF225
     have hm228:=ifYes hc227 hm210; clear hm210
     refine ev_condT hF225 rfl rfl ?_
     refine wp_seq (wp_region_lit ?_)
     refine ev_runs 3 hF225 (l':=[(43,.slice (some ⟨w221.heap.size,0,none⟩) 1 1),(42,nI (atI L26 x45)),(41,.slice p53 L43.length c54),(40,.bool true),(33,nI x196),(32,nI ((L180.length:Int))),(31,nS g211 L180 c190),(8,nI (atI L26 x45)),(19,nI x45),(18,nI ((L26.length:Int))),(17,nS g64 L26 c37),(6,nP ab0 0),(5,.slice p53 L43.length c54)]) (w':=w221.alloc (.cells #[nI (atI L26 x45)] 3)) (by kernel_rfl) ?_
     intro a230 hF229; clear hF225
     have hS231:=hS223.pick4
     clear hS223
     obtain ⟨L232,hx233,hm234⟩:=bind1E hm228; clear hm228
     refine ev_push 44 (.tmp 41) (.tmp 43) hF229 rfl rfl rfl rfl rfl rfl rfl rfl hS231 hx233 ?_
     intro g235 c236 w237 a238 hS239 hF240; clear hF229 hS231
     refine ev_runK 1 hF240 [5,6,17,18,19] (l':=[(5,nS g235 L232 c236),(19,nI x45),(18,nI ((L26.length:Int))),(17,nS g64 L26 c37),(6,nP ab0 0)]) (w':=w237) (by kernel_rfl) ?_
     intro a242 hF241; clear hF240
     refine wpList_nil ?_
     have hS243:=hS239.pick2.drop
     clear hS239
     refine thenN ?_
     refine wp_exit ?_
     refine blockX (by decide) ?_
     refine thenE ?_
     refine thenE ?_
     refine blockE ?_
     refine blockN ?_
     refine thenN (wp_region_lit ?_)
     refine ev_runK 2 hF241 [5,6,17,18,19] (l':=[(19,nI (IntKind.i64.wrap (x45+1))),(5,nS g235 L232 c236),(18,nI ((L26.length:Int))),(17,nS g64 L26 c37),(6,nP ab0 0)]) (w':=w237) (by kernel_rfl) ?_
     intro a245 hF244; clear hF241
     refine wpList_nil ?_
     have hF246:Fr 48 a245 [(19,nI (IntKind.i64.wrap (x45+1))),(18,nI ((L26.length:Int))),(17,nS g64 L26 c37),(6,nP ab0 0),(5,nS g235 L232 c236)]:=Fr.re hF244 (by kernel_rfl)
     clear hF244
     have hS247:=hS243.pick3.pick3.pick3
     clear hS243
     exact thenN ⟨k46,Nat.lt_succ_self _,s74,nS g235 L232 c236,L232,IntKind.i64.wrap (x45+1),hF246,hS247,hm234⟩
    rw [hc227] at hF225
    have hm248:=ifNot hc227 hm210; clear hm210
    refine ev_condF hF225 rfl rfl ?_
    refine wp_skip ?_
    have hF249:=hF225.keep [5,6,8,17,18,19,31,32,33]
    clear hF225
    refine blockN ?_
    refine thenN (wp_region_lit ?_)
    refine ev_runK 2 hF249 [5,6,8,17,18,19,31,32,33] (l':=[(33,nI (IntKind.i64.wrap (x196+1))),(32,nI ((L180.length:Int))),(31,nS g211 L180 c190),(8,nI (atI L26 x45)),(19,nI x45),(18,nI ((L26.length:Int))),(17,nS g64 L26 c37),(6,nP ab0 0),(5,.slice p53 L43.length c54)]) (w':=w221) (by kernel_rfl) ?_
    intro a251 hF250; clear hF249
    refine wpList_nil ?_
    have hS252:=hS223.pick4.pick4.pick4.pick3.pick4
    clear hS223
    exact thenN ⟨k197,Nat.lt_succ_self _,IntKind.i64.wrap (x196+1),hF250,hS252,hm248⟩
   rw [hc206] at hF204
   have hm253:=ifNot hc206 hm203; clear hm203
   refine ev_condF hF204 rfl rfl ?_
   refine wp_exit ?_
   refine thenE ?_
   refine thenE ?_
   refine blockE ?_
   refine blockN ?_
   refine thenN (wp_region_lit ?_)
   refine ev_runK 2 hF204 [5,6,17,18,19] (l':=[(19,nI (IntKind.i64.wrap (x45+1))),(18,nI ((L26.length:Int))),(17,nS g64 L26 c37),(6,nP ab0 0),(5,.slice p53 L43.length c54)]) (w':=w199) (by kernel_rfl) ?_
   intro a255 hF254; clear hF204
   refine wpList_nil ?_
   have hS256:=hS201.drop
   clear hS201
   exact thenN ⟨k46,Nat.lt_succ_self _,s74,.slice p53 L43.length c54,L43,IntKind.i64.wrap (x45+1),hF254,hS256,hm253⟩
 rw [hc59] at hF57
 have hm257:=ifNot hc59 hm52; clear hm52
 refine ev_condF hF57 rfl rfl ?_
 refine wp_exit ?_
 refine thenE ?_
 refine thenE ?_
 refine blockE ?_
 refine thenN (wp_seq (wp_region_lit ?_))
 refine ev_runK 2 hF57 [4] (l':=[(4,.slice p53 L43.length c54)]) (w':=w48) (by kernel_rfl) ?_
 intro a259 hF258; clear hF57
 refine wpList_nil ?_
 have hS260:=hS50.pick2.drop
 clear hS50
 refine thenN ?_
 refine wp_ret ?_
 simp only [Option.some.injEq,Prod.mk.injEq] at hm257
 obtain ⟨rfl,rfl⟩:=hm257
 refine ev_ret hF258 [4] (.slice p53 L43.length c54) rfl rfl rfl ?_
 exact ⟨_,rfl,hS260⟩
end Go.Proofs.Ytinagphkkegmnaa
namespace Go.Proofs.Ytinagphkkegmnaa
open Go.RowKit
set_option linter.unusedVariables false
set_option linter.unusedSimpArgs false
def succs (s:ASt) (p:Int):List Int:=((aWords s p).filter vIsPtr).map vAt
inductive Rch (s:ASt) (roots:List Int):Int→Prop
  | root (p:Int):p ∈ roots→isObj s p=true→Rch s roots p
  | step (p q:Int):Rch s roots p→q ∈ succs s p→isObj s q=true→Rch s roots q
theorem Rch.obj {s:ASt} {roots:List Int} {p:Int} (h:Rch s roots p):isObj s p=true:=by cases h <;> assumption
theorem Rch.mono {s:ASt} {r r':List Int} (hr:∀ p ∈ r,isObj s p=true→Rch s r' p) {p:Int} (h:Rch s r p):Rch s r' p:=by
  induction h with
  | root p h1 h2=>exact hr p h1 h2
  | step p q _ h2 h3 ih=>exact .step p q ih h2 h3
theorem Rch.append {s:ASt} {x y:List Int} {p:Int}:Rch s (x ++ y) p ↔ Rch s x p ∨ Rch s y p:=by
  constructor
  · intro h
    induction h with
    | root p h1 h2 =>
      rcases List.mem_append.1 h1 with h | h
      · exact Or.inl (.root p h h2)
      · exact Or.inr (.root p h h2)
    | step p q _ h2 h3 ih =>
      rcases ih with ih | ih
      · exact Or.inl (.step p q ih h2 h3)
      · exact Or.inr (.step p q ih h2 h3)
  · rintro (h | h)
    · exact h.mono fun p h1 h2=>.root p (List.mem_append.2 (Or.inl h1)) h2
    · exact h.mono fun p h1 h2=>.root p (List.mem_append.2 (Or.inr h1)) h2
theorem Rch.none {s:ASt} {p:Int}:¬ Rch s [] p:=by
  intro h
  induction h with
  | root p h1 _=>cases h1
  | step _ _ _ _ _ ih=>exact ih
theorem wrap_s (x:Int) (h:0≤x) (h2:x<1000000):IntKind.i64.wrap x=x:=by rw [IntKind.wrap_i64]; omega
theorem look_l1 {s:HSt} (ok:HOk s) {p:Int} {n:Nat} (hn:(aLen s.a.c p).toNat=n):∀ (m j:Nat),j≤n→n - j<m→live_look.l1 s p m ((aWords s.a p).take j) (j:Int)=some (some (aWords s.a p),s):=by
  have hb:=alen_bd ok.a p
  have hwl:(aWords s.a p).length=n:=by rw [aWords_len,hn]
  intro m
  induction m with
  | zero=>intro j _ h; omega
  | succ m ih =>
    intro j hj hm
    show live_look.l1b s p (live_look.l1 s p m) _ _=_
    unfold live_look.l1b
    by_cases hlt:j<n
    · rw [if_pos (by rw [decide_eq_true_eq]; omega)]
      obtain ⟨_,e2⟩:=word_at (s:=s.a) (p:=p) (j:=j) (by omega)
      unfold bind2 pLoad
      simp only [Option.bind_some]
      rw [e2]
      unfold bind1 pushM
      rw [if_pos (by rw [List.length_take]; omega)]
      simp only [Option.bind_some]
      rw [← List.take_succ_eq_append_getElem (by omega),wrap_s _ (by omega) (by omega)]
      exact ih (j+1) (by omega) (by omega)
    · rw [if_neg (by rw [decide_eq_true_eq]; omega),show j=n by omega,List.take_of_length_le (by omega)]
theorem look_m {s:HSt} (ok:HOk s) (p:Int) {k:Nat} (hk:40≤k):live_look.m k s p=some (if isObj s.a p then some (aWords s.a p) else none,s):=by
  unfold live_look.m
  have hb:=alen_bd ok.a p
  rw [isObj_kind ok.a]
  by_cases h:aKind s.a.c p=0
  · rw [if_pos (by simpa using h)]; simp [h]
  · rw [if_neg (by simpa using h)]
    have:=look_l1 ok (p:=p) rfl k 0 (by omega) (by omega)
    simp only [List.take_zero] at this
    rw [show live_look.l1 s p k [] 0=_ from this]
    simp [h]
theorem places_l3 {L:List Int} (hw:∀ x ∈ L,Wd x) (hl:L.length<1000):∀ (m j:Nat),j≤L.length→L.length - j<m→live_places.l3 L m (((L.take j).filter vIsPtr).map vAt) (j:Int)=some ((L.filter vIsPtr).map vAt):=by
  intro m
  induction m with
  | zero=>intro j _ h; omega
  | succ m ih =>
    intro j hj hm
    show live_places.l3b L (live_places.l3 L m) _ _=_
    unfold live_places.l3b
    by_cases hlt:j<L.length
    · have hat:atI L (j:Int)=L[j]:=by unfold atI; rw [List.getD_eq_getElem?_getD,Int.toNat_natCast,List.getElem?_eq_getElem hlt]; rfl
      have hT:L.take (j+1)=L.take j ++ [L[j]]:=List.take_succ_eq_append_getElem hlt
      have next:=ih (j+1) (by omega) (by omega)
      rw [hT,List.filter_append,List.map_append] at next
      rw [if_pos (by rw [decide_eq_true_eq]; omega),if_pos (show inR (j:Int) L.length=true by simp [inR]; omega),hat]
      have hWd:=hw L[j] (List.getElem_mem hlt)
      cases hv:vIsPtr L[j] with
      | true =>
        rw [if_pos rfl]
        unfold bind1 pAt
        rw [if_pos (by unfold wdB; unfold Wd at hWd; simp; omega)]
        simp only [Option.bind_some]
        unfold pushM
        rw [if_pos (by rw [List.length_map]; have:=List.length_filter_le vIsPtr (L.take j); rw [List.length_take] at this; omega)]
        simp only [Option.bind_some]
        unfold live_places.j4
        rw [wrap_s _ (by omega) (by omega)]
        simpa [List.filter_cons,hv] using next
      | false =>
        rw [if_neg Bool.false_ne_true]
        unfold live_places.j4
        rw [wrap_s _ (by omega) (by omega)]
        simpa [List.filter_cons,hv] using next
    · rw [if_neg (by rw [decide_eq_true_eq]; omega),List.take_of_length_le (by omega)]
theorem places_m {L:List Int} (hw:∀ x ∈ L,Wd x) {k:Nat} (hl:L.length<100) (hk:100≤k):live_places.m k L=some ((L.filter vIsPtr).map vAt):=by
  have:=places_l3 hw (by omega) k 0 (by omega) (by omega)
  unfold live_places.m
  simpa using this
theorem countP_lt {α:Type} {p q:α→Bool} {a:α}:∀ {l:List α},(∀ x ∈ l,q x=true→p x=true)→a ∈ l→p a=true→q a=false→l.countP q<l.countP p
  | [],_,h,_,_=>by cases h
  | x::l,hi,ha,h1,h2=>by
    rw [List.countP_cons,List.countP_cons]
    have hle:l.countP q≤l.countP p:=List.countP_mono_left fun y hy h=>hi y (List.mem_cons_of_mem _ hy) h
    rcases List.mem_cons.1 ha with rfl | h
    · rw [h1,h2]; simp; omega
    · have:=countP_lt (fun y hy h=>hi y (List.mem_cons_of_mem _ hy) h) h h1 h2
      have h3:=hi x (by simp)
      cases hq:q x with
      | false=>simp; split <;> omega
      | true=>rw [h3 hq]; simp; omega
def togo (s:ASt) (f:Int→Int) (L:List Int):Nat:=32 * (hObjs s).countP (fun p=>!decide (f p > 0))+L.length
structure JR (s:ASt) (roots:List Int) (f:Int→Int) (L:List Int):Prop where
  f01:∀ p,f p=0 ∨ f p=1
  fin:∀ p,f p > 0→Rch s roots p
  lin:∀ p ∈ L,isObj s p=true→Rch s roots p
  rt:∀ p ∈ roots,isObj s p=true→f p > 0 ∨ p ∈ L
  cl:∀ p q,f p > 0→q ∈ succs s p→isObj s q=true→f q > 0 ∨ q ∈ L
theorem obj_key {s:HSt} (ok:HOk s) {p:Int} (h:isObj s.a p=true):0≤p∧p<4096:=by
  obtain ⟨h0,h1⟩:=isObj_range h
  have:=ok.a.len; have:=ok.len
  omega
theorem succs_len {s:HSt} (ok:HOk s) (p:Int):(succs s.a p).length≤31:=by
  unfold succs
  rw [List.length_map]
  have:=List.length_filter_le vIsPtr (aWords s.a p)
  have hb:=alen_bd ok.a p
  rw [aWords_len] at this
  omega
theorem reached_l1 {s:HSt} (ok:HOk s) {roots:List Int} {k:Nat} (hk:100≤k):∀ (m:Nat) (L:List Int) (f:Int→Int),JR s.a roots f L→(∀ x ∈ L,Wd x)→togo s.a f L<m→togo s.a f L<500000→∃ g,(∀ p,g p > 0 ↔ Rch s.a roots p)∧live_reached.l1 k m L f s=some (g,s):=by
  intro m
  induction m with
  | zero=>intro L f _ _ h; omega
  | succ m ih =>
    intro L f J hw hm hb
    show ∃ g,_∧live_reached.l1b k (live_reached.l1 k m) L f s=_
    unfold live_reached.l1b
    cases L with
    | nil =>
      refine ⟨f,fun p=>⟨J.fin p,fun h=>?_⟩,by rw [if_neg (by decide)]⟩
      induction h with
      | root p h1 h2=>rcases J.rt p h1 h2 with h | h; exact h; cases h
      | step p q _ h2 h3 ih=>rcases J.cl p q ih h2 h3 with h | h; exact h; cases h
    | cons x L =>
      have hat:atI (x::L) 0=x:=rfl
      rw [if_pos (by simp),if_pos (by simp [inR]),hat]
      have hd:dropM (x::L) 1=some L:=by unfold dropM; rw [if_pos (by simp; omega)]; rfl
      rw [hd]
      unfold bind1 bind2
      simp only [Option.bind_some]
      rw [look_m ok x (by omega)]
      simp only [Option.bind_some]
      have hwL:∀ y ∈ L,Wd y:=fun y hy=>hw y (List.mem_cons_of_mem _ hy)
      have hx:=hw x (by simp)
      have skip:(isObj s.a x=true→f x > 0)→JR s.a roots f L:=fun h=>⟨J.f01,J.fin,fun p hp=>J.lin p (List.mem_cons_of_mem _ hp),fun p h1 h2=>by
        rcases J.rt p h1 h2 with h3 | h3
        · exact Or.inl h3
        · rcases List.mem_cons.1 h3 with rfl | h3
          · exact Or.inl (h h2)
          · exact Or.inr h3,fun p q h1 h2 h4=>by
        rcases J.cl p q h1 h2 h4 with h3 | h3
        · exact Or.inl h3
        · rcases List.mem_cons.1 h3 with rfl | h3
          · exact Or.inl (h h4)
          · exact Or.inr h3⟩
      have tg:togo s.a f (x::L)=togo s.a f L+1:=by unfold togo; simp; omega
      cases ho:isObj s.a x with
      | false =>
        simp only [Bool.false_eq_true,if_false,optE]
        exact ih L f (skip fun h=>by rw [ho] at h; cases h) hwL (by omega) (by omega)
      | true =>
        simp only [if_true,optE]
        obtain ⟨k0,k1⟩:=obj_key ok ho
        rw [if_pos (by unfold wdR; unfold Wd at hx; simp; omega)]
        by_cases hf:f x > 0
        · rw [if_pos (by simpa using hf)]
          exact ih L f (skip fun _=>hf) hwL (by omega) (by omega)
        · have f0:f x=0:=by rcases J.f01 x with h | h <;> omega
          rw [if_neg (by simpa using hf),if_pos (by unfold keyR; simp; omega),f0,wrap_s _ (by omega) (by omega),if_pos (by decide)]
          have hwd:=aWords_wd ok.wd x
          have hlen:(aWords s.a x).length<100:=by have:=alen_bd ok.a x; rw [aWords_len]; omega
          rw [places_m hwd hlen hk]
          simp only [Option.bind_some]
          have hsl:=succs_len ok x
          unfold appM
          rw [if_pos (by unfold togo at hb; simp only [List.length_cons] at hb; unfold succs at hsl; omega)]
          simp only [Option.bind_some]
          have rx:Rch s.a roots x:=J.lin x (by simp) ho
          have hup:∀ p,updM f x (0+1) p > 0 ↔ p=x ∨ f p > 0:=by
            intro p
            unfold updM
            by_cases e:p=x
            · rw [if_pos e]; simp [e]
            · rw [if_neg e]; simp [e]
          have J2:JR s.a roots (updM f x (0+1)) (L ++ succs s.a x):=by
            refine ⟨fun p=>?_,fun p h=>?_,fun p h1 h2=>?_,fun p h1 h2=>?_,fun p q h1 h2 h3=>?_⟩
            · unfold updM; split
              · right; rfl
              · exact J.f01 p
            · rcases (hup p).1 h with rfl | h
              · exact rx
              · exact J.fin p h
            · rcases List.mem_append.1 h1 with h | h
              · exact J.lin p (List.mem_cons_of_mem _ h) h2
              · exact .step x p rx h h2
            · rcases J.rt p h1 h2 with h | h
              · exact Or.inl ((hup p).2 (Or.inr h))
              · rcases List.mem_cons.1 h with rfl | h
                · exact Or.inl ((hup _).2 (Or.inl rfl))
                · exact Or.inr (List.mem_append.2 (Or.inl h))
            · rcases (hup p).1 h1 with rfl | h1
              · exact Or.inr (List.mem_append.2 (Or.inr h2))
              · rcases J.cl p q h1 h2 h3 with h | h
                · exact Or.inl ((hup q).2 (Or.inr h))
                · rcases List.mem_cons.1 h with rfl | h
                  · exact Or.inl ((hup _).2 (Or.inl rfl))
                  · exact Or.inr (List.mem_append.2 (Or.inl h))
          have hcnt:(hObjs s.a).countP (fun p=>!decide (updM f x (0+1) p > 0))<(hObjs s.a).countP (fun p=>!decide (f p > 0)):=by
            refine countP_lt (a:=x) (fun p _ h=>?_) (mem_hObjs.2 ho) (by simpa using hf) ?_
            · simp only [Bool.not_eq_true',decide_eq_false_iff_not] at h ⊢
              exact fun h2=>h ((hup p).2 (Or.inr h2))
            · simp only [Bool.not_eq_false',decide_eq_true_eq]
              exact (hup x).2 (Or.inl rfl)
          have tg2:togo s.a (updM f x (0+1)) (L ++ succs s.a x)+1≤togo s.a f L:=by
            unfold togo; rw [List.length_append]; omega
          refine ih (L ++ succs s.a x) _ J2 ?_ (by omega) (by omega)
          intro y hy
          rcases List.mem_append.1 hy with h | h
          · exact hwL y h
          · unfold succs at h
            simp only [List.mem_map,List.mem_filter] at h
            obtain ⟨z,⟨hz,_⟩,rfl⟩:=h
            have:=hwd z hz
            unfold vAt; unfold Wd at this ⊢; split <;> omega
theorem objs_len (s:ASt):(hObjs s).length≤s.c.length:=by
  unfold hObjs aObjects
  rw [List.length_map]
  have:=List.length_filter_le (fun p:Nat=>(aHead s.c p).isSome) (List.range s.c.length)
  rw [List.length_range] at this
  exact this
theorem reached_m {s:HSt} (ok:HOk s) {roots:List Int} (hw:∀ x ∈ roots,Wd x) (hr:roots.length≤5000) {k:Nat} (hk:200000≤k):∃ g,(∀ p,g p > 0 ↔ Rch s.a roots p)∧live_reached.m k s roots=some (g,s):=by
  have hl:(hObjs s.a).countP (fun p=>!decide ((0:Int) > 0))≤4096:=by
    have h1:=List.countP_le_length (p:=fun p:Int=>!decide ((0:Int) > 0)) (l:=hObjs s.a)
    have:=objs_len s.a; have:=ok.a.len; have:=ok.len
    omega
  unfold live_reached.m
  unfold bind1 appM
  rw [if_pos (by simp; omega)]
  simp only [Option.bind_some,List.nil_append]
  exact reached_l1 ok (by omega) k roots (fun _=>0) ⟨fun _=>Or.inl rfl,fun p h=>by simp at h,fun p h1 h2=>.root p h1 h2,fun p h _=>Or.inr h,fun p q h _ _=>by simp at h⟩ hw (by unfold togo; simp only; omega) (by unfold togo; simp only; omega)
theorem filter_take {g:Int→Bool} {L:List Int} {j:Nat} (h:j<L.length):(L.take (j+1)).filter g=if g L[j] then (L.take j).filter g ++ [L[j]] else (L.take j).filter g:=by
  rw [List.take_succ_eq_append_getElem h,List.filter_append]
  cases e:g L[j] <;> simp [List.filter_cons,e]
theorem those_l3 {s:HSt} (ok:HOk s) {f:Int→Int} {is:Bool} {L:List Int} (hL:L=hObjsF s.a):∀ (m j:Nat),j≤L.length→L.length - j<m→live_those.l3 is f s m ((L.take j).filter fun p=>decide (f p > 0) == is) (j:Int)=some (L.filter (fun p=>decide (f p > 0) == is),s):=by
  have hlen:L.length≤4096:=by
    rw [hL,← hObjsF_eq]; have:=objs_len s.a; have:=ok.a.len; have:=ok.len; omega
  intro m
  induction m with
  | zero=>intro j _ h; omega
  | succ m ih =>
    intro j hj hm
    show live_those.l3b is f s (live_those.l3 is f s m) _ _=_
    unfold live_those.l3b
    rw [← hL]
    by_cases hlt:j<L.length
    · have hat:atI L (j:Int)=L[j]:=by unfold atI; rw [List.getD_eq_getElem?_getD,Int.toNat_natCast,List.getElem?_eq_getElem hlt]; rfl
      have ho:isObj s.a L[j]=true:=by rw [← mem_hObjs,hObjsF_eq,← hL]; exact List.getElem_mem hlt
      obtain ⟨k0,k1⟩:=obj_key ok ho
      have next:=ih (j+1) (by omega) (by omega)
      rw [filter_take hlt] at next
      rw [if_pos (by rw [decide_eq_true_eq]; omega),if_pos (show inR (j:Int) L.length=true by simp [inR]; omega),hat,if_pos (by unfold wdR; simp; omega)]
      cases e:(decide (f L[j] > 0) == is) with
      | true =>
        rw [e] at next
        rw [if_pos rfl] at next ⊢
        unfold bind1 pushM
        rw [if_pos (by have:=List.length_filter_le (fun p=>decide (f p > 0) == is) (L.take j); rw [List.length_take] at this; omega)]
        simp only [Option.bind_some]
        unfold live_those.j4
        rw [wrap_s _ (by omega) (by omega)]
        exact next
      | false =>
        rw [e] at next
        rw [if_neg Bool.false_ne_true] at next ⊢
        unfold live_those.j4
        rw [wrap_s _ (by omega) (by omega)]
        exact next
    · rw [if_neg (by rw [decide_eq_true_eq]; omega),List.take_of_length_le (by omega)]
theorem those_m {s:HSt} (ok:HOk s) {roots:List Int} (hw:∀ x ∈ roots,Wd x) (hr:roots.length≤5000) {k:Nat} (hk:200000≤k) (is:Bool):∃ g:Int→Bool,(∀ p,g p=true ↔ Rch s.a roots p)∧live_those.m k s roots is=some ((hObjs s.a).filter (fun p=>g p == is),s):=by
  obtain ⟨f,hf,e⟩:=reached_m ok hw hr hk
  refine ⟨fun p=>decide (f p > 0),fun p=>by simpa using hf p,?_⟩
  unfold live_those.m bind2
  rw [e]
  simp only [Option.bind_some]
  have hlen:(hObjsF s.a).length≤4096:=by
    rw [← hObjsF_eq]; have:=objs_len s.a; have:=ok.a.len; have:=ok.len; omega
  have:=those_l3 (f:=f) (is:=is) ok rfl k 0 (by omega) (by omega)
  rw [hObjsF_eq]
  simpa using this
theorem Reach_m {s:HSt} (ok:HOk s) {roots:List Int} (hw:∀ x ∈ roots,Wd x) (hr:roots.length≤5000) {k:Nat} (hk:200000≤k):∃ g:Int→Bool,(∀ p,g p=true ↔ Rch s.a roots p)∧live_Reach.m k s roots=some ((hObjs s.a).filter g,s):=by
  obtain ⟨g,hg,e⟩:=those_m ok hw hr hk true
  refine ⟨g,hg,?_⟩
  unfold live_Reach.m bind2
  rw [e]
  simp only [Option.bind_some,beq_true]
theorem Lost_m {s:HSt} (ok:HOk s) {roots:List Int} (hw:∀ x ∈ roots,Wd x) (hr:roots.length≤5000) {k:Nat} (hk:200000≤k):∃ g:Int→Bool,(∀ p,g p=true ↔ Rch s.a roots p)∧live_Lost.m k s roots=some ((hObjs s.a).filter (fun p=>!g p),s):=by
  obtain ⟨g,hg,e⟩:=those_m ok hw hr hk false
  refine ⟨g,hg,?_⟩
  unfold live_Lost.m bind2
  rw [e]
  simp only [Option.bind_some,beq_false]
end Go.Proofs.Ytinagphkkegmnaa
