/- GStoreFull -/
import Derived.Test.YtffnjpapggidlaaKGStore
import Derived.Test.YtffnjpapggidlaaKGPlayC
import Derived.Test.YtffnjpapggidlaaKSubS
import Derived.Deep.LoopGhost
import Derived.KernelRfl
namespace Go.Proofs.Ytffnjpapggidlaa
open Go.RowKit
set_option linter.unusedVariables false
def law21_sorted.j13 (x18:Int) (rec21:List Int→Int→Option (List Int)) (L59:List Int):Option (List Int):=rec21 L59 (IntKind.i64.wrap (x18+1))
def law21_sorted.j12 (L0:List Int) (L16:List Int) (x18:Int) (rec21:List Int→Int→Option (List Int)) (x37:Int) (rec40:Int→Option (List Int)) (y45:Bool):Option (List Int):=(if (y45) then rec40 (IntKind.i64.wrap (x37 - 1)) else (if (inR x18 L0.length) then (if (leR x37 L16.length) then bind1 (appM [] (L16.take x37.toNat)) fun L88=>bind1 (pushM L88 (atI L0 x18)) fun L104=>bind1 (appM L104 (L16.drop x37.toNat)) fun L114=>law21_sorted.j13 x18 rec21 L114 else none) else none))
def law21_sorted.l11b (L0:List Int) (L16:List Int) (x18:Int) (rec21:List Int→Int→Option (List Int)) (rec40:Int→Option (List Int)) (x37:Int):Option (List Int):=(if (decide (x37 > 0)) then (if (inR (IntKind.i64.wrap (x37 - 1)) L16.length) then (if (inR x18 L0.length) then law21_sorted.j12 L0 L16 x18 rec21 x37 rec40 (decide ((atI L16 (IntKind.i64.wrap (x37 - 1))) > (atI L0 x18))) else none) else none) else law21_sorted.j12 L0 L16 x18 rec21 x37 rec40 false)
def law21_sorted.l11 (L0:List Int) (L16:List Int) (x18:Int) (rec21:List Int→Int→Option (List Int)):Nat→Int→Option (List Int)
  | 0=>fun _=>none
  | kI+1=>law21_sorted.l11b L0 L16 x18 rec21 (law21_sorted.l11 L0 L16 x18 rec21 kI)
def law21_sorted.l8b (L0:List Int) (k:Nat) (rec21:List Int→Int→Option (List Int)) (L16:List Int) (x18:Int):Option (List Int):=(if (decide (x18<(L0.length:Int))) then law21_sorted.l11 L0 L16 x18 rec21 k (L16.length:Int) else some (L16))
def law21_sorted.l8 (L0:List Int) (k:Nat):Nat→List Int→Int→Option (List Int)
  | 0=>fun _ _=>none
  | kI+1=>law21_sorted.l8b L0 k (law21_sorted.l8 L0 k kI)
def law21_sorted.m (k:Nat) (L0:List Int):Option (List Int):=law21_sorted.l8 L0 k k [] 0
set_option maxRecDepth 100000 in
set_option maxHeartbeats 1500000 in
theorem law21_sorted.ok {w0 w:World} {F0:List Nat} {ps:List Piece} {k:Nat} {v0:Value} {L0:List Int} {r0:List Int} (hS:St w0 F0 (RowP (v0) L0::ps) w) (hm:law21_sorted.m k L0=some r0) :
    Calls Try.prog 46 #[v0] w fun e w'=>∃ vr0,e=.returned (vr0)∧St w0 F0 (RowP (v0) L0::RowP vr0 r0::ps) w':=by
 refine ev_enterL 45 [v0] Try.func46 rfl rfl (by simp) ?_
 intro a hF
 have hF0:Fr 45 a [(0,v0)]:=hF; clear hF
 unfold law21_sorted.m at hm
 obtain ⟨hl4,p1,c2,rfl,hp3⟩:=St.shape hS 0 rfl
 refine wp_seq (wp_region_lit ?_)
 have hS6:St w0 F0 (RowP (.slice none 0 0) []::RowP (.slice p1 L0.length c2) L0::ps) w:=St.nil hS
 refine ev_runK 1 hF0 [0] (l':=[(0,.slice p1 L0.length c2)]) (w':=w) (by kernel_rfl) ?_
 intro a8 hF7; clear hF0
 refine wpList_nil ?_
 have hS9:=hS6.drop
 clear hS6
 refine thenN (wp_seq (wp_region_lit ?_))
 have hS11:St w0 F0 (RowP (.slice none 0 0) []::RowP (.slice p1 L0.length c2) L0::ps) w:=St.nil hS9
 clear hS9
 refine ev_runs 1 hF7 (l':=[(3,.slice none 0 0),(0,.slice p1 L0.length c2)]) (w':=w) (by kernel_rfl) ?_
 intro a13 hF12; clear hF7
 refine wpList_nil (thenN (wp_seq (wp_seq (wp_region_lit ?_))))
 refine ev_runs 1 hF12 (l':=[(4,nI 0),(3,.slice none 0 0),(0,.slice p1 L0.length c2)]) (w':=w) (by kernel_rfl) ?_
 intro a15 hF14; clear hF12
 refine wpList_nil (thenN ?_)
 refine wp_block ?_
 refine wp_loop_ghost (fun kI aI wI=>∃ (v17:Value) (L16:List Int) (x18:Int),Fr 45 aI [(4,nI x18),(3,v17),(0,.slice p1 L0.length c2)]∧St w0 F0 (RowP (v17) L16::RowP (.slice p1 L0.length c2) L0::ps) wI∧law21_sorted.l8 L0 k kI L16 x18=some r0) k ⟨.slice none 0 0,[],0,hF14,hS11,hm⟩ ?_
 rintro k19 a20 w21 ⟨v17,L16,x18,hF22,hS23,hm24⟩
 clear hF14 hS11 hm
 rcases k19 with _ | k19
 · cases hm24
 have hm25:law21_sorted.l8b L0 k (law21_sorted.l8 L0 k k19) L16 x18=some r0:=hm24
 clear hm24
 unfold law21_sorted.l8b at hm25
 obtain ⟨hl29,p26,c27,rfl,hp28⟩:=St.shape hS23 0 rfl
 refine wp_seq (wp_seq (wp_region_lit ?_))
 refine ev_runK 4 hF22 [0,3,4,9] (l':=[(9,.bool (decide (x18<(L0.length:Int)))),(4,nI x18),(3,.slice p26 L16.length c27),(0,.slice p1 L0.length c2)]) (w':=w21) (by kernel_rfl) ?_
 intro a31 hF30; clear hF22
 refine wpList_nil (thenN ?_)
 cases hc32:(decide (x18<(L0.length:Int)))
 case true =>
  rw [hc32] at hF30
  have hm33:=ifYes hc32 hm25; clear hm25
  refine ev_condT hF30 rfl rfl ?_
  refine wp_skip ?_
  have hF34:=hF30.keep [0,3,4]
  clear hF30
  refine thenN (wp_seq ?_)
  refine wp_block ?_
  refine wp_seq (wp_region_lit ?_)
  refine ev_runK 3 hF34 [0,3,4,5] (l':=[(5,nI ((L16.length:Int))),(4,nI x18),(3,.slice p26 L16.length c27),(0,.slice p1 L0.length c2)]) (w':=w21) (by kernel_rfl) ?_
  intro a36 hF35; clear hF34
  refine wpList_nil (thenN (wp_seq ?_))
  refine wp_block ?_
  refine wp_loop_ghost (fun kI aI wI=>∃ (x37:Int),Fr 45 aI [(5,nI x37),(4,nI x18),(3,.slice p26 L16.length c27),(0,.slice p1 L0.length c2)]∧St w0 F0 (RowP (.slice p26 L16.length c27) L16::RowP (.slice p1 L0.length c2) L0::ps) wI∧law21_sorted.l11 L0 L16 x18 (law21_sorted.l8 L0 k k19) kI x37=some r0) k ⟨(L16.length:Int),hF35,hS23,hm33⟩ ?_
  rintro k38 a39 w40 ⟨x37,hF41,hS42,hm43⟩
  clear hF35 hS23 hm33
  rcases k38 with _ | k38
  · cases hm43
  have hm44:law21_sorted.l11b L0 L16 x18 (law21_sorted.l8 L0 k k19) (law21_sorted.l11 L0 L16 x18 (law21_sorted.l8 L0 k k19) k38) x37=some r0:=hm43
  clear hm43
  unfold law21_sorted.l11b at hm44
  refine wp_seq (wp_seq ?_)
  refine joinQ (fun aI wI=>∃ (y45:Bool),Fr 45 aI [(27,.bool (y45)),(5,nI x37),(4,nI x18),(3,.slice p26 L16.length c27),(0,.slice p1 L0.length c2)]∧St w0 F0 (RowP (.slice p26 L16.length c27) L16::RowP (.slice p1 L0.length c2) L0::ps) wI∧law21_sorted.j12 L0 L16 x18 (law21_sorted.l8 L0 k k19) x37 (law21_sorted.l11 L0 L16 x18 (law21_sorted.l8 L0 k k19) k38) y45=some r0) ?_ ?_
  rotate_left
  · rintro a47 w48 ⟨y45,hF49,hS50,hm51⟩
    clear hF41 hS42 hm44
    unfold law21_sorted.j12 at hm51
    refine thenN ?_
    cases hc53:(y45)
    case true =>
     rw [hc53] at hF49
     have hm54:=ifYes hc53 hm51; clear hm51
     refine ev_condT hF49 rfl rfl ?_
     refine wp_skip ?_
     have hF55:=hF49.keep [0,3,4,5]
     clear hF49
     refine thenN ?_
     refine wp_block ?_
     refine wp_region_lit ?_
     refine ev_runK 3 hF55 [0,3,4,5] (l':=[(5,nI (IntKind.i64.wrap (x37 - 1))),(4,nI x18),(3,.slice p26 L16.length c27),(0,.slice p1 L0.length c2)]) (w':=w48) (by kernel_rfl) ?_
     intro a57 hF56; clear hF55
     refine wpList_nil ?_
     refine blockN ?_
     exact thenN ⟨k38,Nat.lt_succ_self _,IntKind.i64.wrap (x37 - 1),hF56,hS50,hm54⟩
    rw [hc53] at hF49
    have hm58:=ifNot hc53 hm51; clear hm51
    refine ev_condF hF49 rfl rfl ?_
    refine wp_exit ?_
    refine thenE ?_
    refine thenE ?_
    refine blockE ?_
    refine thenN ?_
    refine joinQ (fun aI wI=>∃ (v60:Value) (L59:List Int),Fr 45 aI [(3,v60),(4,nI x18),(0,.slice p1 L0.length c2)]∧St w0 F0 (RowP (v60) L59::RowP (.slice p1 L0.length c2) L0::ps) wI∧law21_sorted.j13 x18 (law21_sorted.l8 L0 k k19) L59=some r0) ?_ ?_
    rotate_left
    · rintro a62 w63 ⟨v60,L59,hF64,hS65,hm66⟩
      clear hF49 hS50 hm58
      unfold law21_sorted.j13 at hm66
      obtain ⟨hl71,p68,c69,rfl,hp70⟩:=St.shape hS65 0 rfl
      refine blockN ?_
      refine thenN (wp_region_lit ?_)
      refine ev_runK 3 hF64 [0,3,4] (l':=[(4,nI (IntKind.i64.wrap (x18+1))),(3,.slice p68 L59.length c69),(0,.slice p1 L0.length c2)]) (w':=w63) (by kernel_rfl) ?_
      intro a73 hF72; clear hF64
      refine wpList_nil ?_
      exact thenN ⟨k19,Nat.lt_succ_self _,.slice p68 L59.length c69,L59,IntKind.i64.wrap (x18+1),hF72,hS65,hm66⟩
    · skip
      obtain ⟨hc74,hm75⟩:=ifTE hm58; clear hm58
      obtain ⟨g76,rfl⟩:=hp3.resolve_left (by have:=inR_spec hc74; omega)
      have hS77:=hS50.pick1
      clear hS50
      have hS78:=hS77.drew; clear hS77
      refine any_start (fun wS=>∃ qs,St w0 F0 (RowP (nS g76 L0 c2) L0::qs) wS) 15 #[false,false,false,false,false,false,false,false,false,false,false,false,false,false,false] (by kernel_rfl) (by kernel_rfl) (by kernel_rfl) ?_
      refine any_many 2 [(0,some (.slice p26 L16.length c27)),(1,some (nI x37))] [0,3,4,5,30,31,32,33,34,35,36,37,38,39,40,41,42,43] #[true,true,false,false,false,false,false,false,false,false,false,false,false,false,false] (by rfl) hF49 (by kernel_rfl) (by kernel_rfl) (by exact ⟨fun wS hw=>by kernel_rfl,fun wS hw=>by kernel_rfl,trivial⟩) (fun _ _ _ _ _ h=>h) ⟨_,hS78⟩ (l':=[(31,nI x37),(30,.slice p26 L16.length c27),(5,nI x37),(4,nI x18),(3,.slice p26 L16.length c27),(0,nS g76 L0 c2)]) (by kernel_rfl) ?_
      intro a80 hF79; clear hF49
      obtain ⟨hc81,hm82⟩:=ifTE hm75; clear hm75
      have hc83:=St.cap hS78 1 rfl
      refine any_many 8 [(2,some (.slice (p26) (x37.toNat) (c27))),(4,some (nS g76 L0 c2)),(5,some (nI x18)),(6,some (nP g76 (x18.toNat))),(7,some (nI (atI L0 x18))),(10,some (.slice p26 L16.length c27)),(11,some (nI x37)),(12,some (.slice (subP p26 c27 x37.toNat) (L16.length - x37.toNat) (c27 - x37.toNat)))] [0,3,4,32,33,37,38,39,42,43] #[true,true,true,false,true,true,true,true,false,false,true,true,true,false,false] (by rfl) hF79 (by kernel_rfl) (by kernel_rfl) (by exact ⟨fun wS hw=>run_subHi rfl rfl rfl rfl rfl (leR_spec hc81).1 (by have:=leR_spec hc81; have:=hc83; omega) _,fun wS hw=>by kernel_rfl,fun wS hw=>by kernel_rfl,fun wS hw=>run_idx rfl rfl rfl rfl rfl (inR_spec hc74).1 (inR_spec hc74).2 _,fun wS hw=>run_load1 rfl rfl rfl (hw.elim fun qs hw=>hw.atI 0 rfl hc74),fun wS hw=>by kernel_rfl,fun wS hw=>by kernel_rfl,fun wS hw=>run_subLo rfl rfl rfl rfl rfl (leR_spec hc81).1 (leR_spec hc81).2 hc83 _,trivial⟩) (fun _ _ _ _ _ h=>h) ⟨_,hS78⟩ (l':=[(42,.slice (subP p26 c27 x37.toNat) (L16.length - x37.toNat) (c27 - x37.toNat)),(37,nI (atI L0 x18)),(32,.slice (p26) (x37.toNat) (c27)),(4,nI x18),(3,.slice p26 L16.length c27),(0,nS g76 L0 c2)]) (by kernel_rfl) ?_
      intro a85 hF84; clear hF79
      refine any_two 3 8 (by kernel_rfl) ?_ ?_
      · skip
        have hS86:St w0 F0 (RowP (.slice none 0 0) []::RowP (nS g76 L0 c2) L0::RowP (.slice p26 L16.length c27) L16::ps) (w48.drew):=St.nil hS78
        clear hS78
        have hS87:=hS86.pick2.pick1
        clear hS86
        obtain ⟨L88,hx89,hm90⟩:=bind1E hm82; clear hm82
        refine op_appV 22 rfl 3 #[true,true,true,true,true,true,true,true,false,false,true,true,true,false,false] 33 (.const (.slice none 0 0)) (.tmp 32) hF84 rfl rfl rfl (by kernel_rfl) rfl rfl rfl rfl rfl hS87 hx89 (by have:=leR_nat hc81; first | (rw [List.length_take]; omega) | rw [List.length_drop]) (St.srcHi hS87 1 rfl (leR_nat hc81)) (by kernel_rfl) ?_
        intro v91 w92 a93 hS94 hF95; clear hF84 hS87
        obtain ⟨hl99,p96,c97,rfl,hp98⟩:=St.shape hS94 0 rfl
        refine ⟨⟨_,hS94.pick2⟩,?_⟩
        refine any_one 8 (by kernel_rfl) ?_
        have hS100:St w0 F0 (RowP (.slice (some ⟨w92.heap.size,0,none⟩) 1 1) [atI L0 x18]::RowP (.slice p96 L88.length c97) L88::RowP (.slice p26 L16.length c27) L16::RowP (nS g76 L0 c2) L0::ps) (w92.alloc (.cells #[nI (atI L0 x18)] 3)):=St.lit hS94 [atI L0 x18] (by unfold maxLen; simp)
        clear hS94
        refine op_step 8 #[true,true,true,true,true,true,true,true,true,false,true,true,true,false,false] (.slice (some ⟨w92.heap.size,0,none⟩) 1 1) (w92.alloc (.cells #[nI (atI L0 x18)] 3)) hF95 rfl (by kernel_rfl) rfl (by kernel_rfl) (by kernel_rfl) (l':=[(38,.slice (some ⟨w92.heap.size,0,none⟩) 1 1),(33,.slice p96 L88.length c97),(42,.slice (subP p26 c27 x37.toNat) (L16.length - x37.toNat) (c27 - x37.toNat)),(37,nI (atI L0 x18)),(32,.slice (p26) (x37.toNat) (c27)),(4,nI x18),(3,.slice p26 L16.length c27),(0,nS g76 L0 c2)]) (by kernel_rfl) ⟨_,hS100.pick3⟩ (by kernel_rfl) ?_
        intro a102 hF101; clear hF95
        refine any_one 9 (by kernel_rfl) ?_
        have hS103:=hS100.pick1
        clear hS100
        obtain ⟨L104,hx105,hm106⟩:=bind1E hm90; clear hm90
        refine op_push 22 rfl 9 #[true,true,true,true,true,true,true,true,true,true,true,true,true,false,false] 39 (.tmp 33) (.tmp 38) hF101 rfl rfl rfl rfl rfl rfl rfl rfl rfl hS103 hx105 (by kernel_rfl) ?_
        intro g107 c108 w109 a110 hS111 hF112; clear hF101 hS103
        refine ⟨⟨_,hS111.pick3⟩,?_⟩
        refine any_one 13 (by kernel_rfl) ?_
        have hS113:=hS111.pick2.pick1
        clear hS111
        obtain ⟨L114,hx115,hm116⟩:=bind1E hm106; clear hm106
        refine op_appV 22 rfl 13 #[true,true,true,true,true,true,true,true,true,true,true,true,true,true,false] 43 (.tmp 39) (.tmp 42) hF112 rfl rfl rfl (by kernel_rfl) rfl rfl rfl rfl rfl hS113 hx115 (by have:=leR_nat hc81; first | (rw [List.length_take]; omega) | rw [List.length_drop]) (St.srcLo hS113 1 rfl (leR_nat hc81)) (by kernel_rfl) ?_
        intro v117 w118 a119 hS120 hF121; clear hF112 hS113
        obtain ⟨hl125,p122,c123,rfl,hp124⟩:=St.shape hS120 0 rfl
        refine ⟨⟨_,hS120.pick3⟩,?_⟩
        refine any_many 1 [(14,some (.slice p122 L114.length c123))] [0,3,4] #[true,true,true,true,true,true,true,true,true,true,true,true,true,true,true] (by rfl) hF121 (by kernel_rfl) (by kernel_rfl) (by exact ⟨fun wS hw=>by kernel_rfl,trivial⟩) (fun _ _ _ _ _ h=>h) ⟨_,hS120.pick3⟩ (l':=[(3,.slice p122 L114.length c123),(4,nI x18),(0,nS g76 L0 c2)]) (by kernel_rfl) ?_
        intro a127 hF126; clear hF121
        refine any_done (by kernel_rfl) ?_
        have hS128:=hS120.pick1.drop.pick1.drop
        clear hS120
        exact thenN ⟨.slice p122 L114.length c123,L114,hF126,hS128,hm116⟩
      · skip
        have hS129:St w0 F0 (RowP (.slice (some ⟨(w48.drew).heap.size,0,none⟩) 1 1) [atI L0 x18]::RowP (nS g76 L0 c2) L0::RowP (.slice p26 L16.length c27) L16::ps) ((w48.drew).alloc (.cells #[nI (atI L0 x18)] 3)):=St.lit hS78 [atI L0 x18] (by unfold maxLen; simp)
        clear hS78
        refine op_step 8 #[true,true,true,false,true,true,true,true,true,false,true,true,true,false,false] (.slice (some ⟨(w48.drew).heap.size,0,none⟩) 1 1) ((w48.drew).alloc (.cells #[nI (atI L0 x18)] 3)) hF84 rfl (by kernel_rfl) rfl (by kernel_rfl) (by kernel_rfl) (l':=[(38,.slice (some ⟨(w48.drew).heap.size,0,none⟩) 1 1),(42,.slice (subP p26 c27 x37.toNat) (L16.length - x37.toNat) (c27 - x37.toNat)),(37,nI (atI L0 x18)),(32,.slice (p26) (x37.toNat) (c27)),(4,nI x18),(3,.slice p26 L16.length c27),(0,nS g76 L0 c2)]) (by kernel_rfl) ⟨_,hS129.pick1⟩ (by kernel_rfl) ?_
        intro a131 hF130; clear hF84
        refine any_one 3 (by kernel_rfl) ?_
        have hS132:St w0 F0 (RowP (.slice none 0 0) []::RowP (.slice (some ⟨(w48.drew).heap.size,0,none⟩) 1 1) [atI L0 x18]::RowP (nS g76 L0 c2) L0::RowP (.slice p26 L16.length c27) L16::ps) ((w48.drew).alloc (.cells #[nI (atI L0 x18)] 3)):=St.nil hS129
        clear hS129
        have hS133:=hS132.pick3.pick1
        clear hS132
        obtain ⟨L134,hx135,hm136⟩:=bind1E hm82; clear hm82
        refine op_appV 22 rfl 3 #[true,true,true,true,true,true,true,true,true,false,true,true,true,false,false] 33 (.const (.slice none 0 0)) (.tmp 32) hF130 rfl rfl rfl (by kernel_rfl) rfl rfl rfl rfl rfl hS133 hx135 (by have:=leR_nat hc81; first | (rw [List.length_take]; omega) | rw [List.length_drop]) (St.srcHi hS133 1 rfl (leR_nat hc81)) (by kernel_rfl) ?_
        intro v137 w138 a139 hS140 hF141; clear hF130 hS133
        obtain ⟨hl145,p142,c143,rfl,hp144⟩:=St.shape hS140 0 rfl
        refine ⟨⟨_,hS140.pick3⟩,?_⟩
        refine any_one 9 (by kernel_rfl) ?_
        have hS146:=hS140.pick2.pick1
        clear hS140
        obtain ⟨L147,hx148,hm149⟩:=bind1E hm136; clear hm136
        refine op_push 22 rfl 9 #[true,true,true,true,true,true,true,true,true,true,true,true,true,false,false] 39 (.tmp 33) (.tmp 38) hF141 rfl rfl rfl rfl rfl rfl rfl rfl rfl hS146 hx148 (by kernel_rfl) ?_
        intro g150 c151 w152 a153 hS154 hF155; clear hF141 hS146
        refine ⟨⟨_,hS154.pick3⟩,?_⟩
        refine any_one 13 (by kernel_rfl) ?_
        have hS156:=hS154.pick2.pick1
        clear hS154
        obtain ⟨L157,hx158,hm159⟩:=bind1E hm149; clear hm149
        refine op_appV 22 rfl 13 #[true,true,true,true,true,true,true,true,true,true,true,true,true,true,false] 43 (.tmp 39) (.tmp 42) hF155 rfl rfl rfl (by kernel_rfl) rfl rfl rfl rfl rfl hS156 hx158 (by have:=leR_nat hc81; first | (rw [List.length_take]; omega) | rw [List.length_drop]) (St.srcLo hS156 1 rfl (leR_nat hc81)) (by kernel_rfl) ?_
        intro v160 w161 a162 hS163 hF164; clear hF155 hS156
        obtain ⟨hl168,p165,c166,rfl,hp167⟩:=St.shape hS163 0 rfl
        refine ⟨⟨_,hS163.pick3⟩,?_⟩
        refine any_many 1 [(14,some (.slice p165 L157.length c166))] [0,3,4] #[true,true,true,true,true,true,true,true,true,true,true,true,true,true,true] (by rfl) hF164 (by kernel_rfl) (by kernel_rfl) (by exact ⟨fun wS hw=>by kernel_rfl,trivial⟩) (fun _ _ _ _ _ h=>h) ⟨_,hS163.pick3⟩ (l':=[(3,.slice p165 L157.length c166),(4,nI x18),(0,nS g76 L0 c2)]) (by kernel_rfl) ?_
        intro a170 hF169; clear hF164
        refine any_done (by kernel_rfl) ?_
        have hS171:=hS163.pick1.drop.pick1.drop
        clear hS163
        exact thenN ⟨.slice p165 L157.length c166,L157,hF169,hS171,hm159⟩
  · skip
    have hS172:=hS42.drew; clear hS42
    refine any_start (fun wS=>∃ qs,St w0 F0 (RowP (.slice p26 L16.length c27) L16::RowP (.slice p1 L0.length c2) L0::qs) wS) 14 #[false,false,false,false,false,false,false,false,false,false,false,false,false,false] (by kernel_rfl) (by kernel_rfl) (by kernel_rfl) ?_
    refine any_many 3 [(0,some (nI x37)),(1,some (.bool (decide (x37 > 0)))),(2,some (.bool (decide (x37 > 0))))] [0,3,4,5,16,17,18,19,20,21,22,23,24,25,26,27] #[true,true,true,false,false,false,false,false,false,false,false,false,false,false] (by rfl) hF41 (by kernel_rfl) (by kernel_rfl) (by exact ⟨fun wS hw=>by kernel_rfl,fun wS hw=>by kernel_rfl,fun wS hw=>by kernel_rfl,trivial⟩) (fun _ _ _ _ _ h=>h) ⟨_,hS172⟩ (l':=[(16,.bool (decide (x37 > 0))),(5,nI x37),(4,nI x18),(3,.slice p26 L16.length c27),(0,.slice p1 L0.length c2)]) (by kernel_rfl) ?_
    intro a174 hF173; clear hF41
    cases hc175:(decide (x37 > 0))
    case true =>
     rw [hc175] at hF173
     have hm176:=ifYes hc175 hm44; clear hm44
     refine any_many 3 [(3,some (.slice p26 L16.length c27)),(4,some (nI x37)),(5,some (nI (IntKind.i64.wrap (x37 - 1))))] [0,3,4,5,16,17,19,20,21,22,23,24,25,26,27] #[true,true,true,true,true,true,false,false,false,false,false,false,false,false] (by rfl) hF173 (by kernel_rfl) (by kernel_rfl) (by exact ⟨fun wS hw=>by kernel_rfl,fun wS hw=>by kernel_rfl,fun wS hw=>by kernel_rfl,trivial⟩) (fun _ _ _ _ _ h=>h) ⟨_,hS172⟩ (l':=[(19,nI (IntKind.i64.wrap (x37 - 1))),(17,.slice p26 L16.length c27),(16,.bool true),(5,nI x37),(4,nI x18),(3,.slice p26 L16.length c27),(0,.slice p1 L0.length c2)]) (by kernel_rfl) ?_
     intro a178 hF177; clear hF173
     obtain ⟨hc179,hm180⟩:=ifTE hm176; clear hm176
     obtain ⟨g181,rfl⟩:=hp28.resolve_left (by have:=inR_spec hc179; omega)
     refine any_many 4 [(6,some (nP g181 ((IntKind.i64.wrap (x37 - 1)).toNat))),(7,some (nI (atI L16 (IntKind.i64.wrap (x37 - 1))))),(8,some (.slice p1 L0.length c2)),(9,some (nI x18))] [0,3,4,5,16,21,22,23,24,25,26,27] #[true,true,true,true,true,true,true,true,true,true,false,false,false,false] (by rfl) hF177 (by kernel_rfl) (by kernel_rfl) (by exact ⟨fun wS hw=>run_idx rfl rfl rfl rfl rfl (inR_spec hc179).1 (inR_spec hc179).2 _,fun wS hw=>run_load1 rfl rfl rfl (hw.elim fun qs hw=>hw.atI 0 rfl hc179),fun wS hw=>by kernel_rfl,fun wS hw=>by kernel_rfl,trivial⟩) (fun _ _ _ _ _ h=>h) ⟨_,hS172⟩ (l':=[(23,nI x18),(22,.slice p1 L0.length c2),(21,nI (atI L16 (IntKind.i64.wrap (x37 - 1)))),(16,.bool true),(5,nI x37),(4,nI x18),(3,nS g181 L16 c27),(0,.slice p1 L0.length c2)]) (by kernel_rfl) ?_
     intro a183 hF182; clear hF177
     obtain ⟨hc184,hm185⟩:=ifTE hm180; clear hm180
     obtain ⟨g186,rfl⟩:=hp3.resolve_left (by have:=inR_spec hc184; omega)
     refine any_many 4 [(10,some (nP g186 (x18.toNat))),(11,some (nI (atI L0 x18))),(12,some (.bool (decide ((atI L16 (IntKind.i64.wrap (x37 - 1))) > (atI L0 x18))))),(13,some (.bool (decide ((atI L16 (IntKind.i64.wrap (x37 - 1))) > (atI L0 x18)))))] [0,3,4,5,27] #[true,true,true,true,true,true,true,true,true,true,true,true,true,true] (by rfl) hF182 (by kernel_rfl) (by kernel_rfl) (by exact ⟨fun wS hw=>run_idx rfl rfl rfl rfl rfl (inR_spec hc184).1 (inR_spec hc184).2 _,fun wS hw=>run_load1 rfl rfl rfl (hw.elim fun qs hw=>hw.atI 1 rfl hc184),fun wS hw=>by kernel_rfl,fun wS hw=>by kernel_rfl,trivial⟩) (fun _ _ _ _ _ h=>h) ⟨_,hS172⟩ (l':=[(27,.bool (decide ((atI L16 (IntKind.i64.wrap (x37 - 1))) > (atI L0 x18)))),(5,nI x37),(4,nI x18),(3,nS g181 L16 c27),(0,nS g186 L0 c2)]) (by kernel_rfl) ?_
     intro a188 hF187; clear hF182
     refine any_done (by kernel_rfl) ?_
     exact thenN ⟨decide ((atI L16 (IntKind.i64.wrap (x37 - 1))) > (atI L0 x18)),hF187,hS172,hm185⟩
    rw [hc175] at hF173
    have hm189:=ifNot hc175 hm44; clear hm44
    refine any_many 11 [(3,none),(4,none),(5,none),(6,none),(7,none),(8,none),(9,none),(10,none),(11,none),(12,none),(13,some (.bool false))] [0,3,4,5,27] #[true,true,true,true,true,true,true,true,true,true,true,true,true,true] (by rfl) hF173 (by kernel_rfl) (by kernel_rfl) (by exact (And.intro trivial (And.intro trivial (And.intro trivial (And.intro trivial (And.intro trivial (And.intro trivial (And.intro trivial (And.intro trivial (And.intro trivial (And.intro trivial (And.intro (fun wS hw=>by kernel_rfl) trivial)))))))))))) (fun _ _ _ _ _ h=>h) ⟨_,hS172⟩ (l':=[(27,.bool false),(5,nI x37),(4,nI x18),(3,.slice p26 L16.length c27),(0,.slice p1 L0.length c2)]) (by kernel_rfl) ?_
    intro a191 hF190; clear hF173
    refine any_done (by kernel_rfl) ?_
    exact thenN ⟨false,hF190,hS172,hm189⟩
 rw [hc32] at hF30
 have hm192:=ifNot hc32 hm25; clear hm25
 refine ev_condF hF30 rfl rfl ?_
 refine wp_exit ?_
 refine thenE ?_
 refine thenE ?_
 refine blockE ?_
 refine thenN (wp_seq (wp_region_lit ?_))
 refine ev_runK 2 hF30 [2] (l':=[(2,.slice p26 L16.length c27)]) (w':=w21) (by kernel_rfl) ?_
 intro a194 hF193; clear hF30
 refine wpList_nil (thenN ?_)
 refine wp_ret ?_
 have hS195:=hS23.pick1
 clear hS23
 obtain rfl:=Option.some.inj hm192
 refine ev_ret hF193 [2] (.slice p26 L16.length c27) rfl rfl rfl ?_
 exact ⟨_,rfl,hS195⟩
def StoreFull.j11 (y165:Bool):Option (Bool):=some (y165)
def StoreFull.j14 (q9:Cf) (x34:Int) (x112:Int) (rec115:List Int→HSt→Int→Option (Bool)) (s139:HSt) (L298:List Int):Option (Bool):=(if (decide ((L298.length:Int) > (IntKind.i64.wrap ((IntKind.i64.wrap (2+(Int.tmod q9.spans 4))) * (cSlots (cOf (rNeed x34 3))))))) then some (false) else rec115 L298 s139 (IntKind.i64.wrap (x112+1)))
def StoreFull.j13 (q9:Cf) (x34:Int) (L109:List Int) (x112:Int) (rec115:List Int→HSt→Int→Option (Bool)) (L136:List Int) (s139:HSt) (y290:Bool):Option (Bool):=(if (y290) then (if (inR (0:Int) L136.length) then bind1 (pushM L109 (atI L136 (0:Int))) fun L338=>StoreFull.j14 q9 x34 x112 rec115 s139 L338 else none) else StoreFull.j14 q9 x34 x112 rec115 s139 L109)
def StoreFull.j12 (K2:List Bool) (q9:Cf) (x34:Int) (L109:List Int) (x112:Int) (rec115:List Int→HSt→Int→Option (Bool)) (L136:List Int) (s139:HSt) (y274:Bool):Option (Bool):=(if (y274) then some (false) else (if (decide (x112<(K2.length:Int))) then (if (inR x112 K2.length) then (if (atB K2 x112) then StoreFull.j13 q9 x34 L109 x112 rec115 L136 s139 true else StoreFull.j13 q9 x34 L109 x112 rec115 L136 s139 (decide (x112 ≥ (IntKind.i64.wrap (2 * (IntKind.i64.wrap ((IntKind.i64.wrap (2+(Int.tmod q9.spans 4))) * (cSlots (cOf (rNeed x34 3)))))))))) else none) else StoreFull.j13 q9 x34 L109 x112 rec115 L136 s139 (decide (x112 ≥ (IntKind.i64.wrap (2 * (IntKind.i64.wrap ((IntKind.i64.wrap (2+(Int.tmod q9.spans 4))) * (cSlots (cOf (rNeed x34 3)))))))))))
def StoreFull.l10b (K2:List Bool) (k:Nat) (q9:Cf) (x34:Int) (x42:Int) (x43:Int) (x44:Int) (rec115:List Int→HSt→Int→Option (Bool)) (L109:List Int) (s111:HSt) (x112:Int):Option (Bool):=(if (decide (x112<(IntKind.i64.wrap (3 * (IntKind.i64.wrap ((IntKind.i64.wrap (2+(Int.tmod q9.spans 4))) * (cSlots (cOf (rNeed x34 3))))))))) then bind4 (store_Alloc.m k s111 x42 x43 x44 [(⟨x34,3⟩:Nd)] L109) fun L136 L137 x138 s139=>(if (x138 != 0) then (if (x138 == 9) then (if ((L136.length:Int) == 0) then (if ((L109.length:Int) == (IntKind.i64.wrap ((IntKind.i64.wrap (2+(Int.tmod q9.spans 4))) * (cSlots (cOf (rNeed x34 3)))))) then bind1 (store_Heap.m k s139 x42 x43 x44) fun s188=>(if (s188.ph == 0) then bind1 (store_Heap.m k s188 x42 x43 x44) fun s207=>bind1 (law21_sorted.m k L109) fun L232=>bind1 (help_Plain.m k (hObjsF s207.a) L232) fun y246=>StoreFull.j11 y246 else StoreFull.j11 false) else StoreFull.j11 false) else StoreFull.j11 false) else StoreFull.j11 false) else (if ((L136.length:Int) != 1) then StoreFull.j12 K2 q9 x34 L109 x112 rec115 L136 s139 true else (if (inR (0:Int) L136.length) then bind1 (help_In.m k L109 (atI L136 (0:Int))) fun y398=>StoreFull.j12 K2 q9 x34 L109 x112 rec115 L136 s139 y398 else none))) else some (true))
def StoreFull.l10 (K2:List Bool) (k:Nat) (q9:Cf) (x34:Int) (x42:Int) (x43:Int) (x44:Int):Nat→List Int→HSt→Int→Option (Bool)
  | 0=>fun _ _ _=>none
  | kI+1=>StoreFull.l10b K2 k q9 x34 x42 x43 x44 (StoreFull.l10 K2 k q9 x34 x42 x43 x44 kI)
def StoreFull.j1 (K2:List Bool) (k:Nat) (q9:Cf) (x34:Int) (x42:Int) (x43:Int) (x44:Int) (s59:HSt) (y60:Bool):Option (Bool):=(if (y60) then some (false) else StoreFull.l10 K2 k q9 x34 x42 x43 x44 k [] s59 0)
def StoreFull.m (k:Nat) (i0:Cf) (i1:Int) (K2:List Bool):Option (Bool):=bind1 (play_Config.m k (⟨i0.spans,i0.start,i0.assist⟩:Cf)) fun q9=>bind1 (some (IntKind.i64.wrap (1+(IntKind.i64.wrap (Int.tmod (IntKind.u64.wrap i1) 6))))) fun x34=>bind5 (store_New.m k (⟨IntKind.i64.wrap (2+(Int.tmod q9.spans 4)),q9.start,q9.assist⟩:Cf)) fun s41 x42 x43 x44 x45=>bind1 (law21_awake.m k ) fun y413=>(if (!(y413)) then StoreFull.j1 K2 k q9 x34 x42 x43 x44 s41 true else (if (x45 != 0) then StoreFull.j1 K2 k q9 x34 x42 x43 x44 s41 true else bind1 (store_Heap.m k s41 x42 x43 x44) fun s436=>StoreFull.j1 K2 k q9 x34 x42 x43 x44 s436 false))
set_option maxRecDepth 100000 in
set_option maxHeartbeats 40000000 in
theorem StoreFull.ok {w0 w:World} {ps:List Piece} {k:Nat} {i0:Cf} {i1:Int} {pa2:Option Addr} {ca2:Nat} {K2:List Bool} (hA2:ArgBools w0 (.slice pa2 K2.length ca2) K2) {r0:Bool} (hS:St w0 [] (ps) w) (hm:StoreFull.m k i0 i1 K2=some r0) :
    Calls Try.prog 5 #[.agg #[nI (i0.spans),nI (i0.start),nI (i0.assist)],nI i1,.slice pa2 K2.length ca2] w fun e w'=>e=.returned (.bool r0)∧St w0 [] (ps) w':=by
 refine ev_enterL 148 [.agg #[nI (i0.spans),nI (i0.start),nI (i0.assist)],nI i1,.slice pa2 K2.length ca2] Try.func5 rfl rfl (by simp) ?_
 intro a hF
 have hF0:Fr 148 a [(0,.agg #[nI (i0.spans),nI (i0.start),nI (i0.assist)]),(1,nI i1),(2,.slice pa2 K2.length ca2)]:=hF; clear hF
 unfold StoreFull.m at hm
 refine wp_seq (wp_region_lit ?_)
 refine ev_runs 1 hF0 (l':=[(3,nB w),(0,.agg #[nI (i0.spans),nI (i0.start),nI (i0.assist)]),(1,nI i1),(2,.slice pa2 K2.length ca2)]) (w':=w.alloc (.cells #[nI (i0.spans),nI (i0.start),nI (i0.assist)] 60)) (by kernel_rfl) ?_
 intro a2 hF1; clear hF0
 have hS4:St w0 [] (BlkP (w.heap.size) 60 #[nI (i0.spans),nI (i0.start),nI (i0.assist)]::ps) (w.alloc (.cells #[nI (i0.spans),nI (i0.start),nI (i0.assist)] 60)):=St.new hS #[nI (i0.spans),nI (i0.start),nI (i0.assist)] 60
 refine ev_runK 1 hF1 [1,2,3] (l':=[(3,nB w),(1,nI i1),(2,.slice pa2 K2.length ca2)]) (w':=w.alloc (.cells #[nI (i0.spans),nI (i0.start),nI (i0.assist)] 60)) (by kernel_rfl) ?_
 intro a6 hF5; clear hF1
 refine wpList_nil (thenN (wp_seq (wp_region_lit ?_)))
 refine ev_one (.agg #[nI (i0.spans),nI (i0.start),nI (i0.assist)]) (w.alloc (.cells #[nI (i0.spans),nI (i0.start),nI (i0.assist)] 60)) hF5 (by kernel_rfl) rfl (by kernel_rfl) (run_loadV rfl rfl (run_loadA (cs:=[nI (i0.spans),nI (i0.start),nI (i0.assist)]) rfl rfl (by kernel_rfl) (blk_cells hS4 0 rfl rfl))) (l':=[(19,.agg #[nI (i0.spans),nI (i0.start),nI (i0.assist)]),(3,nB w),(1,nI i1),(2,.slice pa2 K2.length ca2)]) (by kernel_rfl) ?_
 intro a8 hF7; clear hF5
 refine ev_call 36 #[.agg #[nI (i0.spans),nI (i0.start),nI (i0.assist)]] hF7 rfl rfl (by kernel_rfl) rfl (by kernel_rfl) (fun w=>by kernel_rfl) ?_
 obtain ⟨q9,hx10,hm11⟩:=bind1E hm; clear hm
 refine (play_Config.ok hS4 hx10).mono ?_
 rintro _ w12 ⟨rfl,hS14⟩ a13 hF15; clear hF7 hS4
 refine ev_store (.agg #[nI (q9.spans),nI (q9.start),nI (q9.assist)]) #[nI (q9.spans),nI (q9.start),nI (q9.assist)] hF15 (by kernel_rfl) rfl rfl rfl rfl (by kernel_rfl) hS14 (by kernel_rfl) (by kernel_rfl) (by kernel_rfl) (l':=[(20,.agg #[nI (q9.spans),nI (q9.start),nI (q9.assist)]),(19,.agg #[nI (i0.spans),nI (i0.start),nI (i0.assist)]),(3,nB w),(1,nI i1),(2,.slice pa2 K2.length ca2)]) (by kernel_rfl) ?_
 intro w16 a17 hS18 hF19; clear hF15 hS14
 refine wpList_nil ?_
 have hF20:=hF19.keep [1,2,3]
 clear hF19
 refine thenN (wp_seq (wp_region_lit ?_))
 refine ev_runs 1 hF20 (l':=[(21,nB w),(3,nB w),(1,nI i1),(2,.slice pa2 K2.length ca2)]) (w':=w16) (by kernel_rfl) ?_
 intro a22 hF21; clear hF20
 refine ev_one (nI (q9.spans)) w16 hF21 (by kernel_rfl) rfl (by kernel_rfl) (run_loadV rfl rfl (run_loadS rfl rfl (hS18.cell 0 rfl 0 rfl))) (l':=[(22,nI (q9.spans)),(21,nB w),(3,nB w),(1,nI i1),(2,.slice pa2 K2.length ca2)]) (by kernel_rfl) ?_
 intro a24 hF23; clear hF21
 refine ev_runs 3 hF23 (l':=[(25,nB w),(24,nI (IntKind.i64.wrap (2+(Int.tmod q9.spans 4)))),(23,nI (Int.tmod q9.spans 4)),(22,nI (q9.spans)),(21,nB w),(3,nB w),(1,nI i1),(2,.slice pa2 K2.length ca2)]) (w':=w16) (by kernel_rfl) ?_
 intro a26 hF25; clear hF23
 refine ev_store (nI (IntKind.i64.wrap (2+(Int.tmod q9.spans 4)))) #[nI (IntKind.i64.wrap (2+(Int.tmod q9.spans 4))),nI (q9.start),nI (q9.assist)] hF25 (by kernel_rfl) rfl rfl rfl rfl (by kernel_rfl) hS18 (by kernel_rfl) (by kernel_rfl) (by kernel_rfl) (l':=[(25,nB w),(24,nI (IntKind.i64.wrap (2+(Int.tmod q9.spans 4)))),(23,nI (Int.tmod q9.spans 4)),(22,nI (q9.spans)),(21,nB w),(3,nB w),(1,nI i1),(2,.slice pa2 K2.length ca2)]) (by kernel_rfl) ?_
 intro w27 a28 hS29 hF30; clear hF25 hS18
 refine wpList_nil ?_
 have hF31:=hF30.keep [1,2,3]
 clear hF30
 refine thenN (wp_seq (wp_region_lit ?_))
 refine ev_runs 6 hF31 (l':=[(1,nI (IntKind.i64.wrap (1+(IntKind.i64.wrap (Int.tmod (IntKind.u64.wrap i1) 6))))),(30,nI (IntKind.i64.wrap (1+(IntKind.i64.wrap (Int.tmod (IntKind.u64.wrap i1) 6))))),(29,nI (IntKind.i64.wrap (Int.tmod (IntKind.u64.wrap i1) 6))),(28,.int .u64 (Int.tmod (IntKind.u64.wrap i1) 6)),(27,.int .u64 (IntKind.u64.wrap i1)),(26,nI i1),(3,nB w),(2,.slice pa2 K2.length ca2)]) (w':=w27) (by kernel_rfl) ?_
 intro a33 hF32; clear hF31
 obtain ⟨x34,hx35,hm36⟩:=bind1E hm11; clear hm11
 have hF37:=hF32; rw [Option.some.inj hx35] at hF37; clear hF32
 refine wpList_nil ?_
 have hF38:=hF37.keep [1,2,3]
 clear hF37
 refine thenN (wp_seq (wp_region_lit ?_))
 refine ev_one (.agg #[nI (IntKind.i64.wrap (2+(Int.tmod q9.spans 4))),nI (q9.start),nI (q9.assist)]) w27 hF38 (by kernel_rfl) rfl (by kernel_rfl) (run_loadV rfl rfl (run_loadA (cs:=[nI (IntKind.i64.wrap (2+(Int.tmod q9.spans 4))),nI (q9.start),nI (q9.assist)]) rfl rfl (by kernel_rfl) (blk_cells hS29 0 rfl rfl))) (l':=[(32,.agg #[nI (IntKind.i64.wrap (2+(Int.tmod q9.spans 4))),nI (q9.start),nI (q9.assist)]),(1,nI x34),(3,nB w),(2,.slice pa2 K2.length ca2)]) (by kernel_rfl) ?_
 intro a40 hF39; clear hF38
 refine ev_call 37 #[.agg #[nI (IntKind.i64.wrap (2+(Int.tmod q9.spans 4))),nI (q9.start),nI (q9.assist)]] hF39 rfl rfl (by kernel_rfl) rfl (by kernel_rfl) (fun w=>by kernel_rfl) ?_
 obtain ⟨s41,x42,x43,x44,x45,hx46,hm47⟩:=bind5E hm36; clear hm36
 refine (store_New.ok hS29 hx46).mono ?_
 rintro _ w48 ⟨z52,z53,z54,rfl,hS50⟩ a49 hF51; clear hF39 hS29
 refine ev_runK 5 hF51 [1,2,3,7,8] (l':=[(8,nI x45),(7,nP z52 0),(1,nI x34),(3,nB w),(2,.slice pa2 K2.length ca2)]) (w':=w48) (by kernel_rfl) ?_
 intro a58 hF57; clear hF51
 refine wpList_nil (thenN (wp_seq (wp_seq ?_)))
 refine joinQ (fun aI wI=>∃ (s59:HSt) (y60:Bool),Fr 148 aI [(50,.bool (y60)),(7,nP z52 0),(1,nI x34),(3,nB w),(2,.slice pa2 K2.length ca2)]∧St w0 [] (BlkP z52 111 #[nP z53 0,nI x42,nI x43,nI x44]::HeapP z53 z54 s59::BlkP (w.heap.size) 60 #[nI (IntKind.i64.wrap (2+(Int.tmod q9.spans 4))),nI (q9.start),nI (q9.assist)]::ps) wI∧StoreFull.j1 K2 k q9 x34 x42 x43 x44 s59 y60=some r0) ?_ ?_
 rotate_left
 · rintro a62 w63 ⟨s59,y60,hF64,hS65,hm66⟩
   clear hF57 hS50 hm47
   unfold StoreFull.j1 at hm66
   refine thenN ?_
   cases hc68:(y60)
   case true =>
    rw [hc68] at hF64
    have hm69:=ifYes hc68 hm66; clear hm66
    refine ev_condT hF64 rfl rfl ?_
    refine wp_seq (wp_region_lit ?_)
    refine ev_runK 1 hF64 [6] (l':=[(6,.bool false)]) (w':=w63) (by kernel_rfl) ?_
    intro a71 hF70; clear hF64
    refine wpList_nil ?_
    have hS72:=hS65.drop.drop.drop
    clear hS65
    refine thenN ?_
    refine wp_ret ?_
    refine thenR ?_
    obtain rfl:=Option.some.inj hm69
    refine ev_ret hF70 [6] (.bool false) rfl rfl rfl ?_
    exact ⟨rfl,hS72⟩
   rw [hc68] at hF64
   have hm74:=ifNot hc68 hm66; clear hm66
   refine ev_condF hF64 rfl rfl ?_
   refine wp_skip ?_
   have hF75:=hF64.keep [1,2,3,7]
   clear hF64
   refine thenN (wp_seq (wp_region_lit ?_))
   refine ev_runs 1 hF75 (l':=[(52,nI x34),(7,nP z52 0),(1,nI x34),(3,nB w),(2,.slice pa2 K2.length ca2)]) (w':=w63) (by kernel_rfl) ?_
   intro a77 hF76; clear hF75
   refine ev_call 40 #[nI x34,nI 3] hF76 rfl rfl (by kernel_rfl) rfl (by kernel_rfl) (fun w=>by kernel_rfl) ?_
   refine (q_Need hS65).mono ?_
   rintro _ w78 ⟨rfl,hS80⟩ a79 hF81; clear hF76 hS65
   refine ev_runK 5 hF81 [1,2,3,7,9] (l':=[(9,nI (rNeed x34 3)),(7,nP z52 0),(1,nI x34),(3,nB w),(2,.slice pa2 K2.length ca2)]) (w':=w78) (by kernel_rfl) ?_
   intro a83 hF82; clear hF81
   refine wpList_nil (thenN (wp_seq (wp_region_lit ?_)))
   refine ev_runs 1 hF82 (l':=[(57,nI (rNeed x34 3)),(9,nI (rNeed x34 3)),(7,nP z52 0),(1,nI x34),(3,nB w),(2,.slice pa2 K2.length ca2)]) (w':=w78) (by kernel_rfl) ?_
   intro a85 hF84; clear hF82
   refine ev_call 41 #[nI (rNeed x34 3)] hF84 rfl rfl (by kernel_rfl) rfl (by kernel_rfl) (fun w=>by kernel_rfl) ?_
   refine (q_ClassOf hS80).mono ?_
   rintro _ w86 ⟨rfl,hS88⟩ a87 hF89; clear hF84 hS80
   refine ev_runK 5 hF89 [1,2,3,7,11] (l':=[(11,nI (cOf (rNeed x34 3))),(7,nP z52 0),(1,nI x34),(3,nB w),(2,.slice pa2 K2.length ca2)]) (w':=w86) (by kernel_rfl) ?_
   intro a91 hF90; clear hF89
   refine wpList_nil (thenN (wp_seq ?_))
   have hS92:=hS88.pick2
   clear hS88
   have hS93:=hS92.drew; clear hS92
   refine any_start (fun wS=>∃ qs,St w0 [] (BlkP (w.heap.size) 60 #[nI (IntKind.i64.wrap (2+(Int.tmod q9.spans 4))),nI (q9.start),nI (q9.assist)]::qs) wS) 6 #[false,false,false,false,false,false] (by kernel_rfl) (by kernel_rfl) (by kernel_rfl) ?_
   refine any_many 3 [(0,some (nB w)),(1,some (nI (IntKind.i64.wrap (2+(Int.tmod q9.spans 4))))),(2,some (nI (cOf (rNeed x34 3))))] [1,2,7,13,62,63,64,65] #[true,true,true,false,false,false] (by rfl) hF90 (by kernel_rfl) (by kernel_rfl) (by exact ⟨fun wS hw=>by kernel_rfl,fun wS hw=>hw.elim fun qs hw=>run_loadV rfl rfl (run_loadS rfl rfl (hw.cell 0 rfl 0 rfl)),fun wS hw=>by kernel_rfl,trivial⟩) (fun _ _ _ _ _ h=>h) ⟨_,hS93⟩ (l':=[(63,nI (cOf (rNeed x34 3))),(62,nI (IntKind.i64.wrap (2+(Int.tmod q9.spans 4)))),(7,nP z52 0),(1,nI x34),(2,.slice pa2 K2.length ca2)]) (by kernel_rfl) ?_
   intro a95 hF94; clear hF90
   refine any_call 3 #[true,true,true,true,false,false] 42 #[nI (cOf (rNeed x34 3))] hF94 rfl (by kernel_rfl) rfl rfl (by kernel_rfl) rfl (by kernel_rfl) (fun w=>by kernel_rfl) (by kernel_rfl) ?_
   refine (q_Slots hS93).mono ?_
   rintro _ w96 ⟨rfl,hS98⟩; clear hS93
   refine ⟨⟨_,hS98⟩,?_⟩
   intro a97 hF99; clear hF94
   refine any_many 2 [(4,some (nI (IntKind.i64.wrap ((IntKind.i64.wrap (2+(Int.tmod q9.spans 4))) * (cSlots (cOf (rNeed x34 3))))))),(5,some (nI (IntKind.i64.wrap ((IntKind.i64.wrap (2+(Int.tmod q9.spans 4))) * (cSlots (cOf (rNeed x34 3)))))))] [1,2,7,13] #[true,true,true,true,true,true] (by rfl) hF99 (by kernel_rfl) (by kernel_rfl) (by exact ⟨fun wS hw=>by kernel_rfl,fun wS hw=>by kernel_rfl,trivial⟩) (fun _ _ _ _ _ h=>h) ⟨_,hS98⟩ (l':=[(13,nI (IntKind.i64.wrap ((IntKind.i64.wrap (2+(Int.tmod q9.spans 4))) * (cSlots (cOf (rNeed x34 3)))))),(7,nP z52 0),(1,nI x34),(2,.slice pa2 K2.length ca2)]) (by kernel_rfl) ?_
   intro a101 hF100; clear hF99
   refine any_done (by kernel_rfl) ?_
   have hS102:=hS98.drop
   clear hS98
   refine thenN (wp_seq (wp_region_lit ?_))
   have hS104:St w0 [] (RowP (.slice none 0 0) []::BlkP z52 111 #[nP z53 0,nI x42,nI x43,nI x44]::HeapP z53 z54 s59::ps) w96:=St.nil hS102
   clear hS102
   refine ev_runs 1 hF100 (l':=[(14,.slice none 0 0),(13,nI (IntKind.i64.wrap ((IntKind.i64.wrap (2+(Int.tmod q9.spans 4))) * (cSlots (cOf (rNeed x34 3)))))),(7,nP z52 0),(1,nI x34),(2,.slice pa2 K2.length ca2)]) (w':=w96) (by kernel_rfl) ?_
   intro a106 hF105; clear hF100
   refine wpList_nil (thenN (wp_seq (wp_seq (wp_region_lit ?_))))
   refine ev_runs 1 hF105 (l':=[(15,nI 0),(14,.slice none 0 0),(13,nI (IntKind.i64.wrap ((IntKind.i64.wrap (2+(Int.tmod q9.spans 4))) * (cSlots (cOf (rNeed x34 3)))))),(7,nP z52 0),(1,nI x34),(2,.slice pa2 K2.length ca2)]) (w':=w96) (by kernel_rfl) ?_
   intro a108 hF107; clear hF105
   refine wpList_nil (thenN ?_)
   refine wp_block ?_
   refine wp_loop_ghost (fun kI aI wI=>∃ (v110:Value) (L109:List Int) (s111:HSt) (x112:Int),Fr 148 aI [(15,nI x112),(14,v110),(13,nI (IntKind.i64.wrap ((IntKind.i64.wrap (2+(Int.tmod q9.spans 4))) * (cSlots (cOf (rNeed x34 3)))))),(7,nP z52 0),(1,nI x34),(2,.slice pa2 K2.length ca2)]∧St w0 [] (RowP (v110) L109::BlkP z52 111 #[nP z53 0,nI x42,nI x43,nI x44]::HeapP z53 z54 s111::ps) wI∧StoreFull.l10 K2 k q9 x34 x42 x43 x44 kI L109 s111 x112=some r0) k ⟨.slice none 0 0,[],s59,0,hF107,hS104,hm74⟩ ?_
   rintro k113 a114 w115 ⟨v110,L109,s111,x112,hF116,hS117,hm118⟩
   clear hF107 hS104 hm74
   rcases k113 with _ | k113
   · cases hm118
   have hm119:StoreFull.l10b K2 k q9 x34 x42 x43 x44 (StoreFull.l10 K2 k q9 x34 x42 x43 x44 k113) L109 s111 x112=some r0:=hm118
   clear hm118
   unfold StoreFull.l10b at hm119
   obtain ⟨hl123,p120,c121,rfl,hp122⟩:=St.shape hS117 0 rfl
   refine wp_seq (wp_seq (wp_region_lit ?_))
   refine ev_runK 4 hF116 [1,2,7,13,14,15,69] (l':=[(69,.bool (decide (x112<(IntKind.i64.wrap (3 * (IntKind.i64.wrap ((IntKind.i64.wrap (2+(Int.tmod q9.spans 4))) * (cSlots (cOf (rNeed x34 3)))))))))),(15,nI x112),(14,.slice p120 L109.length c121),(13,nI (IntKind.i64.wrap ((IntKind.i64.wrap (2+(Int.tmod q9.spans 4))) * (cSlots (cOf (rNeed x34 3)))))),(7,nP z52 0),(1,nI x34),(2,.slice pa2 K2.length ca2)]) (w':=w115) (by kernel_rfl) ?_
   intro a125 hF124; clear hF116
   refine wpList_nil (thenN ?_)
   cases hc126:(decide (x112<(IntKind.i64.wrap (3 * (IntKind.i64.wrap ((IntKind.i64.wrap (2+(Int.tmod q9.spans 4))) * (cSlots (cOf (rNeed x34 3)))))))))
   case true =>
    rw [hc126] at hF124
    have hm127:=ifYes hc126 hm119; clear hm119
    refine ev_condT hF124 rfl rfl ?_
    refine wp_skip ?_
    have hF128:=hF124.keep [1,2,7,13,14,15]
    clear hF124
    refine thenN (wp_seq ?_)
    refine wp_block ?_
    refine wp_seq (wp_region_lit ?_)
    refine ev_runs 4 hF128 (l':=[(76,.slice (some ⟨w115.heap.size,0,none⟩) 1 1),(75,.agg #[nI x34,nI 3]),(74,nI x34),(73,nP z52 0),(15,nI x112),(14,.slice p120 L109.length c121),(13,nI (IntKind.i64.wrap ((IntKind.i64.wrap (2+(Int.tmod q9.spans 4))) * (cSlots (cOf (rNeed x34 3)))))),(7,nP z52 0),(1,nI x34),(2,.slice pa2 K2.length ca2)]) (w':=w115.alloc (.cells #[nI x34,nI 3] 74)) (by kernel_rfl) ?_
    intro a131 hF130; clear hF128
    have hS132:St w0 [] (RowX kNd (.slice (some ⟨w115.heap.size,0,none⟩) 1 1) [(⟨x34,3⟩:Nd)]::RowP (.slice p120 L109.length c121) L109::BlkP z52 111 #[nP z53 0,nI x42,nI x43,nI x44]::HeapP z53 z54 s111::ps) (w115.alloc (.cells #[nI x34,nI 3] 74)):=St.litX kNd hS117 [(⟨x34,3⟩:Nd)] (by unfold maxLen; simp)
    clear hS117
    refine ev_runs 1 hF130 (l':=[(77,.slice p120 L109.length c121),(76,.slice (some ⟨w115.heap.size,0,none⟩) 1 1),(75,.agg #[nI x34,nI 3]),(74,nI x34),(73,nP z52 0),(15,nI x112),(14,.slice p120 L109.length c121),(13,nI (IntKind.i64.wrap ((IntKind.i64.wrap (2+(Int.tmod q9.spans 4))) * (cSlots (cOf (rNeed x34 3)))))),(7,nP z52 0),(1,nI x34),(2,.slice pa2 K2.length ca2)]) (w':=w115.alloc (.cells #[nI x34,nI 3] 74)) (by kernel_rfl) ?_
    intro a134 hF133; clear hF130
    have hS135:=hS132.pick1.pick1.pick3.pick3
    clear hS132
    refine ev_call 43 #[nP z52 0,.slice (some ⟨w115.heap.size,0,none⟩) 1 1,.slice p120 L109.length c121] hF133 rfl rfl (by kernel_rfl) rfl (by kernel_rfl) (fun w=>by kernel_rfl) ?_
    obtain ⟨L136,L137,x138,s139,hx140,hm141⟩:=bind4E hm127; clear hm127
    refine (store_Alloc.ok hS135 hx140).mono ?_
    rintro _ w142 ⟨z146,z147,rfl,hS144⟩ a143 hF145; clear hF133 hS135
    obtain ⟨hl153,p150,c151,rfl,hp152⟩:=St.shape hS144 4 rfl
    obtain ⟨hl157,p154,c155,rfl,hp156⟩:=St.shapeG (k:=5) hS144 rfl
    refine ev_runK 7 hF145 [1,2,7,13,14,15,16,18] (l':=[(18,nI x138),(16,.slice p150 L136.length c151),(15,nI x112),(14,.slice p120 L109.length c121),(13,nI (IntKind.i64.wrap ((IntKind.i64.wrap (2+(Int.tmod q9.spans 4))) * (cSlots (cOf (rNeed x34 3)))))),(7,nP z52 0),(1,nI x34),(2,.slice pa2 K2.length ca2)]) (w':=w142) (by kernel_rfl) ?_
    intro a159 hF158; clear hF145
    refine wpList_nil ?_
    have hS160:=hS144.pick2.drop.pick4.drop
    clear hS144
    refine thenN (wp_seq (wp_seq (wp_region_lit ?_)))
    refine ev_runK 2 hF158 [1,2,7,13,14,15,16,18,83] (l':=[(83,.bool (x138 != 0)),(18,nI x138),(16,.slice p150 L136.length c151),(15,nI x112),(14,.slice p120 L109.length c121),(13,nI (IntKind.i64.wrap ((IntKind.i64.wrap (2+(Int.tmod q9.spans 4))) * (cSlots (cOf (rNeed x34 3)))))),(7,nP z52 0),(1,nI x34),(2,.slice pa2 K2.length ca2)]) (w':=w142) (by kernel_rfl) ?_
    intro a162 hF161; clear hF158
    refine wpList_nil (thenN ?_)
    cases hc163:(x138 != 0)
    case true =>
     rw [hc163] at hF161
     have hm164:=ifYes hc163 hm141; clear hm141
     refine ev_condT hF161 rfl rfl ?_
     refine wp_seq ?_
     refine joinQ (fun aI wI=>∃ (y165:Bool),Fr 148 aI [(6,.bool (y165))]∧St w0 [] (ps) wI∧StoreFull.j11 y165=some r0) ?_ ?_
     rotate_left
     · rintro a167 w168 ⟨y165,hF169,hS170,hm171⟩
       clear hF161 hS160 hm164
       unfold StoreFull.j11 at hm171
       refine thenN ?_
       refine wp_ret ?_
       refine thenR ?_
       refine blockR ?_
       refine thenR (thenR ?_)
       refine blockR ?_
       refine thenR ?_
       obtain rfl:=Option.some.inj hm171
       refine ev_ret hF169 [6] (.bool (y165)) rfl rfl rfl ?_
       exact ⟨rfl,hS170⟩
     · skip
       refine wp_region_lit ?_
       refine ev_runs 3 hF161 (l':=[(86,.bool (x138 == 9)),(85,.bool (x138 == 9)),(84,nI x138),(83,.bool true),(18,nI x138),(16,.slice p150 L136.length c151),(15,nI x112),(14,.slice p120 L109.length c121),(13,nI (IntKind.i64.wrap ((IntKind.i64.wrap (2+(Int.tmod q9.spans 4))) * (cSlots (cOf (rNeed x34 3)))))),(7,nP z52 0),(1,nI x34),(2,.slice pa2 K2.length ca2)]) (w':=w142) (by kernel_rfl) ?_
       intro a175 hF174; clear hF161
       cases hc176:(x138 == 9)
       case true =>
        rw [hc176] at hF174
        have hm177:=ifYes hc176 hm164; clear hm164
        refine ev_runs 5 hF174 (l':=[(91,.bool ((L136.length:Int) == 0)),(90,.bool ((L136.length:Int) == 0)),(89,.bool ((L136.length:Int) == 0)),(88,nI ((L136.length:Int))),(87,.slice p150 L136.length c151),(86,.bool true),(85,.bool true),(84,nI x138),(83,.bool true),(18,nI x138),(16,.slice p150 L136.length c151),(15,nI x112),(14,.slice p120 L109.length c121),(13,nI (IntKind.i64.wrap ((IntKind.i64.wrap (2+(Int.tmod q9.spans 4))) * (cSlots (cOf (rNeed x34 3)))))),(7,nP z52 0),(1,nI x34),(2,.slice pa2 K2.length ca2)]) (w':=w142) (by kernel_rfl) ?_
        intro a179 hF178; clear hF174
        cases hc180:((L136.length:Int) == 0)
        case true =>
         rw [hc180] at hF178
         have hm181:=ifYes hc180 hm177; clear hm177
         refine ev_runs 6 hF178 (l':=[(97,.bool ((L109.length:Int) == (IntKind.i64.wrap ((IntKind.i64.wrap (2+(Int.tmod q9.spans 4))) * (cSlots (cOf (rNeed x34 3))))))),(96,.bool ((L109.length:Int) == (IntKind.i64.wrap ((IntKind.i64.wrap (2+(Int.tmod q9.spans 4))) * (cSlots (cOf (rNeed x34 3))))))),(95,.bool ((L109.length:Int) == (IntKind.i64.wrap ((IntKind.i64.wrap (2+(Int.tmod q9.spans 4))) * (cSlots (cOf (rNeed x34 3))))))),(94,nI (IntKind.i64.wrap ((IntKind.i64.wrap (2+(Int.tmod q9.spans 4))) * (cSlots (cOf (rNeed x34 3)))))),(93,nI ((L109.length:Int))),(92,.slice p120 L109.length c121),(91,.bool true),(90,.bool true),(89,.bool true),(88,nI ((L136.length:Int))),(87,.slice p150 L136.length c151),(86,.bool true),(85,.bool true),(84,nI x138),(83,.bool true),(18,nI x138),(16,.slice p150 L136.length c151),(15,nI x112),(14,.slice p120 L109.length c121),(13,nI (IntKind.i64.wrap ((IntKind.i64.wrap (2+(Int.tmod q9.spans 4))) * (cSlots (cOf (rNeed x34 3)))))),(7,nP z52 0),(1,nI x34),(2,.slice pa2 K2.length ca2)]) (w':=w142) (by kernel_rfl) ?_
         intro a183 hF182; clear hF178
         cases hc184:((L109.length:Int) == (IntKind.i64.wrap ((IntKind.i64.wrap (2+(Int.tmod q9.spans 4))) * (cSlots (cOf (rNeed x34 3))))))
         case true =>
          rw [hc184] at hF182
          have hm185:=ifYes hc184 hm181; clear hm181
          refine ev_runs 1 hF182 (l':=[(98,nP z52 0),(97,.bool true),(96,.bool true),(95,.bool true),(94,nI (IntKind.i64.wrap ((IntKind.i64.wrap (2+(Int.tmod q9.spans 4))) * (cSlots (cOf (rNeed x34 3)))))),(93,nI ((L109.length:Int))),(92,.slice p120 L109.length c121),(91,.bool true),(90,.bool true),(89,.bool true),(88,nI ((L136.length:Int))),(87,.slice p150 L136.length c151),(86,.bool true),(85,.bool true),(84,nI x138),(83,.bool true),(18,nI x138),(16,.slice p150 L136.length c151),(15,nI x112),(14,.slice p120 L109.length c121),(13,nI (IntKind.i64.wrap ((IntKind.i64.wrap (2+(Int.tmod q9.spans 4))) * (cSlots (cOf (rNeed x34 3)))))),(7,nP z52 0),(1,nI x34),(2,.slice pa2 K2.length ca2)]) (w':=w142) (by kernel_rfl) ?_
          intro a187 hF186; clear hF182
          refine ev_call 39 #[nP z52 0] hF186 rfl rfl (by kernel_rfl) rfl (by kernel_rfl) (fun w=>by kernel_rfl) ?_
          obtain ⟨s188,hx189,hm190⟩:=bind1E hm185; clear hm185
          refine (store_Heap.ok hS160 hx189).mono ?_
          rintro _ w191 ⟨rfl,hS193⟩ a192 hF194; clear hF186 hS160
          have hS195:=hS193.pick1
          clear hS193
          refine ev_call 44 #[nP z53 0] hF194 rfl rfl (by kernel_rfl) rfl (by kernel_rfl) (fun w=>by kernel_rfl) ?_
          refine (p_Phase hS195).mono ?_
          rintro _ w196 ⟨rfl,hS198⟩ a197 hF199; clear hF194 hS195
          refine ev_runs 3 hF199 (l':=[(103,.bool (s188.ph == 0)),(102,.bool (s188.ph == 0)),(101,.bool (s188.ph == 0)),(100,nI (s188.ph)),(99,nP z53 0),(98,nP z52 0),(97,.bool true),(96,.bool true),(95,.bool true),(94,nI (IntKind.i64.wrap ((IntKind.i64.wrap (2+(Int.tmod q9.spans 4))) * (cSlots (cOf (rNeed x34 3)))))),(93,nI ((L109.length:Int))),(92,.slice p120 L109.length c121),(91,.bool true),(90,.bool true),(89,.bool true),(88,nI ((L136.length:Int))),(87,.slice p150 L136.length c151),(86,.bool true),(85,.bool true),(84,nI x138),(83,.bool true),(18,nI x138),(16,.slice p150 L136.length c151),(15,nI x112),(14,.slice p120 L109.length c121),(13,nI (IntKind.i64.wrap ((IntKind.i64.wrap (2+(Int.tmod q9.spans 4))) * (cSlots (cOf (rNeed x34 3)))))),(7,nP z52 0),(1,nI x34),(2,.slice pa2 K2.length ca2)]) (w':=w196) (by kernel_rfl) ?_
          intro a201 hF200; clear hF199
          cases hc202:(s188.ph == 0)
          case true =>
           rw [hc202] at hF200
           have hm203:=ifYes hc202 hm190; clear hm190
           refine ev_runs 1 hF200 (l':=[(104,nP z52 0),(103,.bool true),(102,.bool true),(101,.bool true),(100,nI (s188.ph)),(99,nP z53 0),(98,nP z52 0),(97,.bool true),(96,.bool true),(95,.bool true),(94,nI (IntKind.i64.wrap ((IntKind.i64.wrap (2+(Int.tmod q9.spans 4))) * (cSlots (cOf (rNeed x34 3)))))),(93,nI ((L109.length:Int))),(92,.slice p120 L109.length c121),(91,.bool true),(90,.bool true),(89,.bool true),(88,nI ((L136.length:Int))),(87,.slice p150 L136.length c151),(86,.bool true),(85,.bool true),(84,nI x138),(83,.bool true),(18,nI x138),(16,.slice p150 L136.length c151),(15,nI x112),(14,.slice p120 L109.length c121),(13,nI (IntKind.i64.wrap ((IntKind.i64.wrap (2+(Int.tmod q9.spans 4))) * (cSlots (cOf (rNeed x34 3)))))),(7,nP z52 0),(1,nI x34),(2,.slice pa2 K2.length ca2)]) (w':=w196) (by kernel_rfl) ?_
           intro a205 hF204; clear hF200
           have hS206:=hS198.pick1
           clear hS198
           refine ev_call 39 #[nP z52 0] hF204 rfl rfl (by kernel_rfl) rfl (by kernel_rfl) (fun w=>by kernel_rfl) ?_
           obtain ⟨s207,hx208,hm209⟩:=bind1E hm203; clear hm203
           refine (store_Heap.ok hS206 hx208).mono ?_
           rintro _ w210 ⟨rfl,hS212⟩ a211 hF213; clear hF204 hS206
           have hS214:=hS212.pick1
           clear hS212
           refine ev_call 45 #[nP z53 0] hF213 rfl rfl (by kernel_rfl) rfl (by kernel_rfl) (fun w=>by kernel_rfl) ?_
           refine (p_Arena hS214).mono ?_
           rintro _ w215 ⟨rfl,hS217⟩ a216 hF218; clear hF213 hS214
           refine ev_call 26 #[nP z54 0] hF218 rfl rfl (by kernel_rfl) rfl (by kernel_rfl) (fun w=>by kernel_rfl) ?_
           refine (p_Objects hS217).mono ?_
           rintro _ w219 ⟨z223,rfl,hS221⟩ a220 hF222; clear hF218 hS217
           obtain ⟨hl228,p225,c226,rfl,hp227⟩:=St.shape hS221 1 rfl
           refine ev_runs 1 hF222 (l':=[(108,.slice p120 L109.length c121),(107,.slice p225 (hObjsF s207.a).length c226),(106,nP z54 0),(105,nP z53 0),(104,nP z52 0),(103,.bool true),(102,.bool true),(101,.bool true),(100,nI (s188.ph)),(99,nP z53 0),(98,nP z52 0),(97,.bool true),(96,.bool true),(95,.bool true),(94,nI (IntKind.i64.wrap ((IntKind.i64.wrap (2+(Int.tmod q9.spans 4))) * (cSlots (cOf (rNeed x34 3)))))),(93,nI ((L109.length:Int))),(92,.slice p120 L109.length c121),(91,.bool true),(90,.bool true),(89,.bool true),(88,nI ((L136.length:Int))),(87,.slice p150 L136.length c151),(86,.bool true),(85,.bool true),(84,nI x138),(83,.bool true),(18,nI x138),(16,.slice p150 L136.length c151),(15,nI x112),(14,.slice p120 L109.length c121),(13,nI (IntKind.i64.wrap ((IntKind.i64.wrap (2+(Int.tmod q9.spans 4))) * (cSlots (cOf (rNeed x34 3)))))),(7,nP z52 0),(1,nI x34),(2,.slice pa2 K2.length ca2)]) (w':=w219) (by kernel_rfl) ?_
           intro a230 hF229; clear hF222
           have hS231:=hS221.pick3
           clear hS221
           refine ev_call 46 #[.slice p120 L109.length c121] hF229 rfl rfl (by kernel_rfl) rfl (by kernel_rfl) (fun w=>by kernel_rfl) ?_
           obtain ⟨L232,hx233,hm234⟩:=bind1E hm209; clear hm209
           refine (law21_sorted.ok hS231 hx233).mono ?_
           rintro _ w235 ⟨z239,rfl,hS237⟩ a236 hF238; clear hF229 hS231
           obtain ⟨hl244,p241,c242,rfl,hp243⟩:=St.shape hS237 1 rfl
           have hS245:=hS237.pick1.pick3
           clear hS237
           refine ev_call 25 #[.slice p225 (hObjsF s207.a).length c226,.slice p241 L232.length c242] hF238 rfl rfl (by kernel_rfl) rfl (by kernel_rfl) (fun w=>by kernel_rfl) ?_
           obtain ⟨y246,hx247,hm248⟩:=bind1E hm234; clear hm234
           refine (help_Plain.ok hS245 hx247).mono ?_
           rintro _ w249 ⟨rfl,hS251⟩ a250 hF252; clear hF238 hS245
           refine ev_runK 2 hF252 [6] (l':=[(6,.bool (y246))]) (w':=w249) (by kernel_rfl) ?_
           intro a254 hF253; clear hF252
           refine wpList_nil ?_
           have hS255:=hS251.drop.drop.drop.drop.drop.drop
           clear hS251
           exact thenN ⟨y246,hF253,hS255,hm248⟩
          rw [hc202] at hF200
          have hm256:=ifNot hc202 hm190; clear hm190
          refine ev_runK 9 hF200 [6] (l':=[(6,.bool false)]) (w':=w196) (by kernel_rfl) ?_
          intro a258 hF257; clear hF200
          refine wpList_nil ?_
          have hS259:=hS198.drop.drop.drop.drop
          clear hS198
          exact thenN ⟨false,hF257,hS259,hm256⟩
         rw [hc184] at hF182
         have hm260:=ifNot hc184 hm181; clear hm181
         refine ev_runK 15 hF182 [6] (l':=[(6,.bool false)]) (w':=w142) (by kernel_rfl) ?_
         intro a262 hF261; clear hF182
         refine wpList_nil ?_
         have hS263:=hS160.drop.drop.drop.drop
         clear hS160
         exact thenN ⟨false,hF261,hS263,hm260⟩
        rw [hc180] at hF178
        have hm264:=ifNot hc180 hm177; clear hm177
        refine ev_runK 21 hF178 [6] (l':=[(6,.bool false)]) (w':=w142) (by kernel_rfl) ?_
        intro a266 hF265; clear hF178
        refine wpList_nil ?_
        have hS267:=hS160.drop.drop.drop.drop
        clear hS160
        exact thenN ⟨false,hF265,hS267,hm264⟩
       rw [hc176] at hF174
       have hm268:=ifNot hc176 hm164; clear hm164
       refine ev_runK 26 hF174 [6] (l':=[(6,.bool false)]) (w':=w142) (by kernel_rfl) ?_
       intro a270 hF269; clear hF174
       refine wpList_nil ?_
       have hS271:=hS160.drop.drop.drop.drop
       clear hS160
       exact thenN ⟨false,hF269,hS271,hm268⟩
    rw [hc163] at hF161
    have hm272:=ifNot hc163 hm141; clear hm141
    refine ev_condF hF161 rfl rfl ?_
    refine wp_skip ?_
    have hF273:=hF161.keep [1,2,7,13,14,15,16]
    clear hF161
    refine thenN (wp_seq (wp_seq ?_))
    refine joinQ (fun aI wI=>∃ (y274:Bool),Fr 148 aI [(121,.bool (y274)),(16,.slice p150 L136.length c151),(15,nI x112),(14,.slice p120 L109.length c121),(13,nI (IntKind.i64.wrap ((IntKind.i64.wrap (2+(Int.tmod q9.spans 4))) * (cSlots (cOf (rNeed x34 3)))))),(7,nP z52 0),(1,nI x34),(2,.slice pa2 K2.length ca2)]∧St w0 [] (BlkP z52 111 #[nP z53 0,nI x42,nI x43,nI x44]::HeapP z53 z54 s139::RowP (.slice p120 L109.length c121) L109::RowP (.slice p150 L136.length c151) L136::ps) wI∧StoreFull.j12 K2 q9 x34 L109 x112 (StoreFull.l10 K2 k q9 x34 x42 x43 x44 k113) L136 s139 y274=some r0) ?_ ?_
    rotate_left
    · rintro a276 w277 ⟨y274,hF278,hS279,hm280⟩
      clear hF273 hS160 hm272
      unfold StoreFull.j12 at hm280
      refine thenN ?_
      cases hc282:(y274)
      case true =>
       rw [hc282] at hF278
       have hm283:=ifYes hc282 hm280; clear hm280
       refine ev_condT hF278 rfl rfl ?_
       refine wp_seq (wp_region_lit ?_)
       refine ev_runK 1 hF278 [6] (l':=[(6,.bool false)]) (w':=w277) (by kernel_rfl) ?_
       intro a285 hF284; clear hF278
       refine wpList_nil ?_
       have hS286:=hS279.drop.drop.drop.drop
       clear hS279
       refine thenN ?_
       refine wp_ret ?_
       refine thenR ?_
       refine blockR ?_
       refine thenR (thenR ?_)
       refine blockR ?_
       refine thenR ?_
       obtain rfl:=Option.some.inj hm283
       refine ev_ret hF284 [6] (.bool false) rfl rfl rfl ?_
       exact ⟨rfl,hS286⟩
      rw [hc282] at hF278
      have hm288:=ifNot hc282 hm280; clear hm280
      refine ev_condF hF278 rfl rfl ?_
      refine wp_skip ?_
      have hF289:=hF278.keep [1,2,7,13,14,15,16]
      clear hF278
      refine thenN (wp_seq (wp_seq ?_))
      refine joinQ (fun aI wI=>∃ (y290:Bool),Fr 148 aI [(137,.bool (y290)),(16,.slice p150 L136.length c151),(15,nI x112),(14,.slice p120 L109.length c121),(13,nI (IntKind.i64.wrap ((IntKind.i64.wrap (2+(Int.tmod q9.spans 4))) * (cSlots (cOf (rNeed x34 3)))))),(7,nP z52 0),(1,nI x34),(2,.slice pa2 K2.length ca2)]∧St w0 [] (BlkP z52 111 #[nP z53 0,nI x42,nI x43,nI x44]::HeapP z53 z54 s139::RowP (.slice p120 L109.length c121) L109::RowP (.slice p150 L136.length c151) L136::ps) wI∧StoreFull.j13 q9 x34 L109 x112 (StoreFull.l10 K2 k q9 x34 x42 x43 x44 k113) L136 s139 y290=some r0) ?_ ?_
      rotate_left
      · rintro a292 w293 ⟨y290,hF294,hS295,hm296⟩
        clear hF289 hS279 hm288
        unfold StoreFull.j13 at hm296
        refine thenN ?_
        refine joinQ (fun aI wI=>∃ (v299:Value) (L298:List Int),Fr 148 aI [(15,nI x112),(14,v299),(13,nI (IntKind.i64.wrap ((IntKind.i64.wrap (2+(Int.tmod q9.spans 4))) * (cSlots (cOf (rNeed x34 3)))))),(7,nP z52 0),(1,nI x34),(2,.slice pa2 K2.length ca2)]∧St w0 [] (BlkP z52 111 #[nP z53 0,nI x42,nI x43,nI x44]::HeapP z53 z54 s139::RowP (v299) L298::ps) wI∧StoreFull.j14 q9 x34 x112 (StoreFull.l10 K2 k q9 x34 x42 x43 x44 k113) s139 L298=some r0) ?_ ?_
        rotate_left
        · rintro a301 w302 ⟨v299,L298,hF303,hS304,hm305⟩
          clear hF294 hS295 hm296
          unfold StoreFull.j14 at hm305
          obtain ⟨hl310,p307,c308,rfl,hp309⟩:=St.shape hS304 2 rfl
          refine thenN (wp_seq (wp_region_lit ?_))
          refine ev_runK 4 hF303 [1,2,7,13,14,15,147] (l':=[(147,.bool (decide ((L298.length:Int) > (IntKind.i64.wrap ((IntKind.i64.wrap (2+(Int.tmod q9.spans 4))) * (cSlots (cOf (rNeed x34 3)))))))),(15,nI x112),(14,.slice p307 L298.length c308),(13,nI (IntKind.i64.wrap ((IntKind.i64.wrap (2+(Int.tmod q9.spans 4))) * (cSlots (cOf (rNeed x34 3)))))),(7,nP z52 0),(1,nI x34),(2,.slice pa2 K2.length ca2)]) (w':=w302) (by kernel_rfl) ?_
          intro a312 hF311; clear hF303
          refine wpList_nil (thenN ?_)
          cases hc313:(decide ((L298.length:Int) > (IntKind.i64.wrap ((IntKind.i64.wrap (2+(Int.tmod q9.spans 4))) * (cSlots (cOf (rNeed x34 3)))))))
          case true =>
           rw [hc313] at hF311
           have hm314:=ifYes hc313 hm305; clear hm305
           refine ev_condT hF311 rfl rfl ?_
           refine wp_seq (wp_region_lit ?_)
           refine ev_runK 1 hF311 [6] (l':=[(6,.bool false)]) (w':=w302) (by kernel_rfl) ?_
           intro a316 hF315; clear hF311
           refine wpList_nil ?_
           have hS317:=hS304.drop.drop.drop
           clear hS304
           refine thenN ?_
           refine wp_ret ?_
           refine blockR ?_
           refine thenR (thenR ?_)
           refine blockR ?_
           refine thenR ?_
           obtain rfl:=Option.some.inj hm314
           refine ev_ret hF315 [6] (.bool false) rfl rfl rfl ?_
           exact ⟨rfl,hS317⟩
          rw [hc313] at hF311
          have hm319:=ifNot hc313 hm305; clear hm305
          refine ev_condF hF311 rfl rfl ?_
          refine wp_skip ?_
          have hF320:=hF311.keep [1,2,7,13,14,15]
          clear hF311
          refine blockN ?_
          refine thenN (wp_region_lit ?_)
          refine ev_runK 3 hF320 [1,2,7,13,14,15] (l':=[(15,nI (IntKind.i64.wrap (x112+1))),(14,.slice p307 L298.length c308),(13,nI (IntKind.i64.wrap ((IntKind.i64.wrap (2+(Int.tmod q9.spans 4))) * (cSlots (cOf (rNeed x34 3)))))),(7,nP z52 0),(1,nI x34),(2,.slice pa2 K2.length ca2)]) (w':=w302) (by kernel_rfl) ?_
          intro a322 hF321; clear hF320
          refine wpList_nil ?_
          have hS323:=hS304.pick1.pick1.pick2
          clear hS304
          exact thenN ⟨k113,Nat.lt_succ_self _,.slice p307 L298.length c308,L298,s139,IntKind.i64.wrap (x112+1),hF321,hS323,hm319⟩
        · skip
          cases hc324:(y290)
          case true =>
           rw [hc324] at hF294
           have hm325:=ifYes hc324 hm296; clear hm296
           refine ev_condT hF294 rfl rfl ?_
           refine wp_region_lit ?_
           refine ev_runs 2 hF294 (l':=[(139,.slice p150 L136.length c151),(138,.slice p120 L109.length c121),(137,.bool true),(16,.slice p150 L136.length c151),(15,nI x112),(14,.slice p120 L109.length c121),(13,nI (IntKind.i64.wrap ((IntKind.i64.wrap (2+(Int.tmod q9.spans 4))) * (cSlots (cOf (rNeed x34 3)))))),(7,nP z52 0),(1,nI x34),(2,.slice pa2 K2.length ca2)]) (w':=w293) (by kernel_rfl) ?_
           intro a327 hF326; clear hF294
           obtain ⟨hc328,hm329⟩:=ifTE hm325; clear hm325
           obtain ⟨g330,rfl⟩:=hp152.resolve_left (by have:=inR_spec hc328; omega)
           refine ev_one (nP g330 ((0:Int).toNat)) w293 hF326 (by kernel_rfl) rfl (by kernel_rfl) (run_idx rfl rfl rfl rfl rfl (inR_spec hc328).1 (inR_spec hc328).2 _) (l':=[(140,nP g330 ((0:Int).toNat)),(139,nS g330 L136 c151),(138,.slice p120 L109.length c121),(137,.bool true),(16,nS g330 L136 c151),(15,nI x112),(14,.slice p120 L109.length c121),(13,nI (IntKind.i64.wrap ((IntKind.i64.wrap (2+(Int.tmod q9.spans 4))) * (cSlots (cOf (rNeed x34 3)))))),(7,nP z52 0),(1,nI x34),(2,.slice pa2 K2.length ca2)]) (by kernel_rfl) ?_
           intro a332 hF331; clear hF326
           refine ev_one (nI (atI L136 (0:Int))) w293 hF331 (by kernel_rfl) rfl (by kernel_rfl) (run_load1 rfl rfl rfl (hS295.atI 3 rfl hc328)) (l':=[(141,nI (atI L136 (0:Int))),(140,nP g330 ((0:Int).toNat)),(139,nS g330 L136 c151),(138,.slice p120 L109.length c121),(137,.bool true),(16,nS g330 L136 c151),(15,nI x112),(14,.slice p120 L109.length c121),(13,nI (IntKind.i64.wrap ((IntKind.i64.wrap (2+(Int.tmod q9.spans 4))) * (cSlots (cOf (rNeed x34 3)))))),(7,nP z52 0),(1,nI x34),(2,.slice pa2 K2.length ca2)]) (by kernel_rfl) ?_
           intro a334 hF333; clear hF331
           refine ev_runs 1 hF333 (l':=[(142,.slice (some ⟨w293.heap.size,0,none⟩) 1 1),(141,nI (atI L136 (0:Int))),(140,nP g330 ((0:Int).toNat)),(139,nS g330 L136 c151),(138,.slice p120 L109.length c121),(137,.bool true),(16,nS g330 L136 c151),(15,nI x112),(14,.slice p120 L109.length c121),(13,nI (IntKind.i64.wrap ((IntKind.i64.wrap (2+(Int.tmod q9.spans 4))) * (cSlots (cOf (rNeed x34 3)))))),(7,nP z52 0),(1,nI x34),(2,.slice pa2 K2.length ca2)]) (w':=w293.alloc (.cells #[nI (atI L136 (0:Int))] 3)) (by kernel_rfl) ?_
           intro a336 hF335; clear hF333
           have hS337:=hS295.pick2
           clear hS295
           obtain ⟨L338,hx339,hm340⟩:=bind1E hm329; clear hm329
           refine ev_push 143 (.tmp 138) (.tmp 142) hF335 rfl rfl rfl rfl rfl rfl rfl rfl hS337 hx339 ?_
           intro g341 c342 w343 a344 hS345 hF346; clear hF335 hS337
           refine ev_runK 1 hF346 [1,2,7,13,14,15] (l':=[(14,nS g341 L338 c342),(15,nI x112),(13,nI (IntKind.i64.wrap ((IntKind.i64.wrap (2+(Int.tmod q9.spans 4))) * (cSlots (cOf (rNeed x34 3)))))),(7,nP z52 0),(1,nI x34),(2,.slice pa2 K2.length ca2)]) (w':=w343) (by kernel_rfl) ?_
           intro a348 hF347; clear hF346
           refine wpList_nil ?_
           have hS349:=hS345.pick3.drop
           clear hS345
           have hF350:Fr 148 a348 [(15,nI x112),(14,nS g341 L338 c342),(13,nI (IntKind.i64.wrap ((IntKind.i64.wrap (2+(Int.tmod q9.spans 4))) * (cSlots (cOf (rNeed x34 3)))))),(7,nP z52 0),(1,nI x34),(2,.slice pa2 K2.length ca2)]:=Fr.re hF347 (by kernel_rfl)
           clear hF347
           have hS351:=hS349.pick2.pick2
           clear hS349
           exact thenN ⟨nS g341 L338 c342,L338,hF350,hS351,hm340⟩
          rw [hc324] at hF294
          have hm352:=ifNot hc324 hm296; clear hm296
          refine ev_condF hF294 rfl rfl ?_
          refine wp_skip ?_
          have hF353:=hF294.keep [1,2,7,13,14,15]
          clear hF294
          have hS354:=hS295.pick3.drop
          clear hS295
          exact thenN ⟨.slice p120 L109.length c121,L109,hF353,hS354,hm352⟩
      · skip
        refine wp_region_lit ?_
        refine ev_runs 5 hF289 (l':=[(126,.bool (decide (x112<(K2.length:Int)))),(125,.bool (decide (x112<(K2.length:Int)))),(124,nI ((K2.length:Int))),(123,.slice pa2 K2.length ca2),(122,nI x112),(16,.slice p150 L136.length c151),(15,nI x112),(14,.slice p120 L109.length c121),(13,nI (IntKind.i64.wrap ((IntKind.i64.wrap (2+(Int.tmod q9.spans 4))) * (cSlots (cOf (rNeed x34 3)))))),(7,nP z52 0),(1,nI x34),(2,.slice pa2 K2.length ca2)]) (w':=w277) (by kernel_rfl) ?_
        intro a356 hF355; clear hF289
        cases hc357:(decide (x112<(K2.length:Int)))
        case true =>
         rw [hc357] at hF355
         have hm358:=ifYes hc357 hm288; clear hm288
         refine ev_runs 2 hF355 (l':=[(128,nI x112),(127,.slice pa2 K2.length ca2),(126,.bool true),(125,.bool true),(124,nI ((K2.length:Int))),(123,.slice pa2 K2.length ca2),(122,nI x112),(16,.slice p150 L136.length c151),(15,nI x112),(14,.slice p120 L109.length c121),(13,nI (IntKind.i64.wrap ((IntKind.i64.wrap (2+(Int.tmod q9.spans 4))) * (cSlots (cOf (rNeed x34 3)))))),(7,nP z52 0),(1,nI x34),(2,.slice pa2 K2.length ca2)]) (w':=w277) (by kernel_rfl) ?_
         intro a360 hF359; clear hF355
         obtain ⟨hc361,hm362⟩:=ifTE hm358; clear hm358
         obtain ⟨b363,o364,rfl⟩:=argKB hA2 hc361
         refine ev_one (nP b363 ((o364+x112.toNat))) w277 hF359 (by kernel_rfl) rfl (by kernel_rfl) (run_idxO rfl rfl rfl rfl rfl (inR_spec hc361).1 (inR_spec hc361).2 _) (l':=[(129,nP b363 ((o364+x112.toNat))),(128,nI x112),(127,.slice (some ⟨b363,o364,none⟩) K2.length ca2),(126,.bool true),(125,.bool true),(124,nI ((K2.length:Int))),(123,.slice (some ⟨b363,o364,none⟩) K2.length ca2),(122,nI x112),(16,.slice p150 L136.length c151),(15,nI x112),(14,.slice p120 L109.length c121),(13,nI (IntKind.i64.wrap ((IntKind.i64.wrap (2+(Int.tmod q9.spans 4))) * (cSlots (cOf (rNeed x34 3)))))),(7,nP z52 0),(1,nI x34),(2,.slice (some ⟨b363,o364,none⟩) K2.length ca2)]) (by kernel_rfl) ?_
         intro a366 hF365; clear hF359
         refine ev_one (.bool (atB K2 x112)) w277 hF365 (by kernel_rfl) rfl (by kernel_rfl) (run_loadB rfl rfl rfl (argAtB hA2 hS279 hc361)) (l':=[(130,.bool (atB K2 x112)),(129,nP b363 ((o364+x112.toNat))),(128,nI x112),(127,.slice (some ⟨b363,o364,none⟩) K2.length ca2),(126,.bool true),(125,.bool true),(124,nI ((K2.length:Int))),(123,.slice (some ⟨b363,o364,none⟩) K2.length ca2),(122,nI x112),(16,.slice p150 L136.length c151),(15,nI x112),(14,.slice p120 L109.length c121),(13,nI (IntKind.i64.wrap ((IntKind.i64.wrap (2+(Int.tmod q9.spans 4))) * (cSlots (cOf (rNeed x34 3)))))),(7,nP z52 0),(1,nI x34),(2,.slice (some ⟨b363,o364,none⟩) K2.length ca2)]) (by kernel_rfl) ?_
         intro a368 hF367; clear hF365
         refine ev_runs 2 hF367 (l':=[(132,.bool (atB K2 x112)),(131,.bool (atB K2 x112)),(130,.bool (atB K2 x112)),(129,nP b363 ((o364+x112.toNat))),(128,nI x112),(127,.slice (some ⟨b363,o364,none⟩) K2.length ca2),(126,.bool true),(125,.bool true),(124,nI ((K2.length:Int))),(123,.slice (some ⟨b363,o364,none⟩) K2.length ca2),(122,nI x112),(16,.slice p150 L136.length c151),(15,nI x112),(14,.slice p120 L109.length c121),(13,nI (IntKind.i64.wrap ((IntKind.i64.wrap (2+(Int.tmod q9.spans 4))) * (cSlots (cOf (rNeed x34 3)))))),(7,nP z52 0),(1,nI x34),(2,.slice (some ⟨b363,o364,none⟩) K2.length ca2)]) (w':=w277) (by kernel_rfl) ?_
         intro a370 hF369; clear hF367
         cases hc371:(atB K2 x112)
         case true =>
          rw [hc371] at hF369
          have hm372:=ifYes hc371 hm362; clear hm362
          refine ev_runK 5 hF369 [1,2,7,13,14,15,16,137] (l':=[(137,.bool true),(16,.slice p150 L136.length c151),(15,nI x112),(14,.slice p120 L109.length c121),(13,nI (IntKind.i64.wrap ((IntKind.i64.wrap (2+(Int.tmod q9.spans 4))) * (cSlots (cOf (rNeed x34 3)))))),(7,nP z52 0),(1,nI x34),(2,.slice (some ⟨b363,o364,none⟩) K2.length ca2)]) (w':=w277) (by kernel_rfl) ?_
          intro a374 hF373; clear hF369
          refine wpList_nil ?_
          exact thenN ⟨true,hF373,hS279,hm372⟩
         rw [hc371] at hF369
         have hm375:=ifNot hc371 hm362; clear hm362
         refine ev_runK 5 hF369 [1,2,7,13,14,15,16,137] (l':=[(137,.bool (decide (x112 ≥ (IntKind.i64.wrap (2 * (IntKind.i64.wrap ((IntKind.i64.wrap (2+(Int.tmod q9.spans 4))) * (cSlots (cOf (rNeed x34 3)))))))))),(16,.slice p150 L136.length c151),(15,nI x112),(14,.slice p120 L109.length c121),(13,nI (IntKind.i64.wrap ((IntKind.i64.wrap (2+(Int.tmod q9.spans 4))) * (cSlots (cOf (rNeed x34 3)))))),(7,nP z52 0),(1,nI x34),(2,.slice (some ⟨b363,o364,none⟩) K2.length ca2)]) (w':=w277) (by kernel_rfl) ?_
         intro a377 hF376; clear hF369
         refine wpList_nil ?_
         exact thenN ⟨decide (x112 ≥ (IntKind.i64.wrap (2 * (IntKind.i64.wrap ((IntKind.i64.wrap (2+(Int.tmod q9.spans 4))) * (cSlots (cOf (rNeed x34 3)))))))),hF376,hS279,hm375⟩
        rw [hc357] at hF355
        have hm378:=ifNot hc357 hm288; clear hm288
        refine ev_runK 11 hF355 [1,2,7,13,14,15,16,137] (l':=[(137,.bool (decide (x112 ≥ (IntKind.i64.wrap (2 * (IntKind.i64.wrap ((IntKind.i64.wrap (2+(Int.tmod q9.spans 4))) * (cSlots (cOf (rNeed x34 3)))))))))),(16,.slice p150 L136.length c151),(15,nI x112),(14,.slice p120 L109.length c121),(13,nI (IntKind.i64.wrap ((IntKind.i64.wrap (2+(Int.tmod q9.spans 4))) * (cSlots (cOf (rNeed x34 3)))))),(7,nP z52 0),(1,nI x34),(2,.slice pa2 K2.length ca2)]) (w':=w277) (by kernel_rfl) ?_
        intro a380 hF379; clear hF355
        refine wpList_nil ?_
        exact thenN ⟨decide (x112 ≥ (IntKind.i64.wrap (2 * (IntKind.i64.wrap ((IntKind.i64.wrap (2+(Int.tmod q9.spans 4))) * (cSlots (cOf (rNeed x34 3)))))))),hF379,hS279,hm378⟩
    · skip
      refine wp_region_lit ?_
      refine ev_runs 4 hF273 (l':=[(115,.bool ((L136.length:Int) != 1)),(114,.bool ((L136.length:Int) != 1)),(113,nI ((L136.length:Int))),(112,.slice p150 L136.length c151),(16,.slice p150 L136.length c151),(15,nI x112),(14,.slice p120 L109.length c121),(13,nI (IntKind.i64.wrap ((IntKind.i64.wrap (2+(Int.tmod q9.spans 4))) * (cSlots (cOf (rNeed x34 3)))))),(7,nP z52 0),(1,nI x34),(2,.slice pa2 K2.length ca2)]) (w':=w142) (by kernel_rfl) ?_
      intro a382 hF381; clear hF273
      cases hc383:((L136.length:Int) != 1)
      case true =>
       rw [hc383] at hF381
       have hm384:=ifYes hc383 hm272; clear hm272
       refine ev_runK 6 hF381 [1,2,7,13,14,15,16,121] (l':=[(121,.bool true),(16,.slice p150 L136.length c151),(15,nI x112),(14,.slice p120 L109.length c121),(13,nI (IntKind.i64.wrap ((IntKind.i64.wrap (2+(Int.tmod q9.spans 4))) * (cSlots (cOf (rNeed x34 3)))))),(7,nP z52 0),(1,nI x34),(2,.slice pa2 K2.length ca2)]) (w':=w142) (by kernel_rfl) ?_
       intro a386 hF385; clear hF381
       refine wpList_nil ?_
       exact thenN ⟨true,hF385,hS160,hm384⟩
      rw [hc383] at hF381
      have hm387:=ifNot hc383 hm272; clear hm272
      refine ev_runs 2 hF381 (l':=[(117,.slice p150 L136.length c151),(116,.slice p120 L109.length c121),(115,.bool false),(114,.bool false),(113,nI ((L136.length:Int))),(112,.slice p150 L136.length c151),(16,.slice p150 L136.length c151),(15,nI x112),(14,.slice p120 L109.length c121),(13,nI (IntKind.i64.wrap ((IntKind.i64.wrap (2+(Int.tmod q9.spans 4))) * (cSlots (cOf (rNeed x34 3)))))),(7,nP z52 0),(1,nI x34),(2,.slice pa2 K2.length ca2)]) (w':=w142) (by kernel_rfl) ?_
      intro a389 hF388; clear hF381
      obtain ⟨hc390,hm391⟩:=ifTE hm387; clear hm387
      obtain ⟨g392,rfl⟩:=hp152.resolve_left (by have:=inR_spec hc390; omega)
      refine ev_one (nP g392 ((0:Int).toNat)) w142 hF388 (by kernel_rfl) rfl (by kernel_rfl) (run_idx rfl rfl rfl rfl rfl (inR_spec hc390).1 (inR_spec hc390).2 _) (l':=[(118,nP g392 ((0:Int).toNat)),(117,nS g392 L136 c151),(116,.slice p120 L109.length c121),(115,.bool false),(114,.bool false),(113,nI ((L136.length:Int))),(112,nS g392 L136 c151),(16,nS g392 L136 c151),(15,nI x112),(14,.slice p120 L109.length c121),(13,nI (IntKind.i64.wrap ((IntKind.i64.wrap (2+(Int.tmod q9.spans 4))) * (cSlots (cOf (rNeed x34 3)))))),(7,nP z52 0),(1,nI x34),(2,.slice pa2 K2.length ca2)]) (by kernel_rfl) ?_
      intro a394 hF393; clear hF388
      refine ev_one (nI (atI L136 (0:Int))) w142 hF393 (by kernel_rfl) rfl (by kernel_rfl) (run_load1 rfl rfl rfl (hS160.atI 3 rfl hc390)) (l':=[(119,nI (atI L136 (0:Int))),(118,nP g392 ((0:Int).toNat)),(117,nS g392 L136 c151),(116,.slice p120 L109.length c121),(115,.bool false),(114,.bool false),(113,nI ((L136.length:Int))),(112,nS g392 L136 c151),(16,nS g392 L136 c151),(15,nI x112),(14,.slice p120 L109.length c121),(13,nI (IntKind.i64.wrap ((IntKind.i64.wrap (2+(Int.tmod q9.spans 4))) * (cSlots (cOf (rNeed x34 3)))))),(7,nP z52 0),(1,nI x34),(2,.slice pa2 K2.length ca2)]) (by kernel_rfl) ?_
      intro a396 hF395; clear hF393
      have hS397:=hS160.pick2
      clear hS160
      refine ev_call 47 #[.slice p120 L109.length c121,nI (atI L136 (0:Int))] hF395 rfl rfl (by kernel_rfl) rfl (by kernel_rfl) (fun w=>by kernel_rfl) ?_
      obtain ⟨y398,hx399,hm400⟩:=bind1E hm391; clear hm391
      refine (help_In.ok hS397 hx399).mono ?_
      rintro _ w401 ⟨rfl,hS403⟩ a402 hF404; clear hF395 hS397
      refine ev_runK 1 hF404 [1,2,7,13,14,15,16,121] (l':=[(121,.bool (y398)),(16,nS g392 L136 c151),(15,nI x112),(14,.slice p120 L109.length c121),(13,nI (IntKind.i64.wrap ((IntKind.i64.wrap (2+(Int.tmod q9.spans 4))) * (cSlots (cOf (rNeed x34 3)))))),(7,nP z52 0),(1,nI x34),(2,.slice pa2 K2.length ca2)]) (w':=w401) (by kernel_rfl) ?_
      intro a406 hF405; clear hF404
      refine wpList_nil ?_
      have hS407:=hS403.pick3.pick1.pick3.pick3
      clear hS403
      exact thenN ⟨y398,hF405,hS407,hm400⟩
   rw [hc126] at hF124
   have hm408:=ifNot hc126 hm119; clear hm119
   refine ev_condF hF124 rfl rfl ?_
   refine wp_exit ?_
   refine thenE ?_
   refine thenE ?_
   refine blockE ?_
   refine thenN (wp_seq (wp_region_lit ?_))
   refine ev_runK 1 hF124 [6] (l':=[(6,.bool true)]) (w':=w115) (by kernel_rfl) ?_
   intro a410 hF409; clear hF124
   refine wpList_nil ?_
   have hS411:=hS117.drop.drop.drop
   clear hS117
   refine thenN ?_
   refine wp_ret ?_
   obtain rfl:=Option.some.inj hm408
   refine ev_ret hF409 [6] (.bool true) rfl rfl rfl ?_
   exact ⟨rfl,hS411⟩
 · skip
   refine wp_region_lit ?_
   refine ev_call 38 #[] hF57 rfl rfl (by kernel_rfl) rfl (by kernel_rfl) (fun w=>by kernel_rfl) ?_
   obtain ⟨y413,hx414,hm415⟩:=bind1E hm47; clear hm47
   refine (law21_awake.ok hS50 hx414).mono ?_
   rintro _ w416 ⟨rfl,hS418⟩ a417 hF419; clear hF57 hS50
   refine ev_runs 2 hF419 (l':=[(38,.bool (!(y413))),(37,.bool (!(y413))),(36,.bool (y413)),(8,nI x45),(7,nP z52 0),(1,nI x34),(3,nB w),(2,.slice pa2 K2.length ca2)]) (w':=w416) (by kernel_rfl) ?_
   intro a421 hF420; clear hF419
   cases hc422:(!(y413))
   case true =>
    rw [hc422] at hF420
    have hm423:=ifYes hc422 hm415; clear hm415
    refine ev_runK 12 hF420 [1,2,3,7,50] (l':=[(50,.bool true),(7,nP z52 0),(1,nI x34),(3,nB w),(2,.slice pa2 K2.length ca2)]) (w':=w416) (by kernel_rfl) ?_
    intro a425 hF424; clear hF420
    refine wpList_nil ?_
    exact thenN ⟨s41,true,hF424,hS418,hm423⟩
   rw [hc422] at hF420
   have hm426:=ifNot hc422 hm415; clear hm415
   refine ev_runs 4 hF420 (l':=[(42,.bool (x45 != 0)),(41,.bool (x45 != 0)),(40,.bool (x45 != 0)),(39,nI x45),(38,.bool false),(37,.bool false),(36,.bool (y413)),(8,nI x45),(7,nP z52 0),(1,nI x34),(3,nB w),(2,.slice pa2 K2.length ca2)]) (w':=w416) (by kernel_rfl) ?_
   intro a428 hF427; clear hF420
   cases hc429:(x45 != 0)
   case true =>
    rw [hc429] at hF427
    have hm430:=ifYes hc429 hm426; clear hm426
    refine ev_runK 8 hF427 [1,2,3,7,50] (l':=[(50,.bool true),(7,nP z52 0),(1,nI x34),(3,nB w),(2,.slice pa2 K2.length ca2)]) (w':=w416) (by kernel_rfl) ?_
    intro a432 hF431; clear hF427
    refine wpList_nil ?_
    exact thenN ⟨s41,true,hF431,hS418,hm430⟩
   rw [hc429] at hF427
   have hm433:=ifNot hc429 hm426; clear hm426
   refine ev_runs 5 hF427 (l':=[(47,nP z52 0),(46,.bool false),(45,.bool false),(44,.bool false),(43,nP z52 0),(42,.bool false),(41,.bool false),(40,.bool false),(39,nI x45),(38,.bool false),(37,.bool false),(36,.bool (y413)),(8,nI x45),(7,nP z52 0),(1,nI x34),(3,nB w),(2,.slice pa2 K2.length ca2)]) (w':=w416) (by kernel_rfl) ?_
   intro a435 hF434; clear hF427
   refine ev_call 39 #[nP z52 0] hF434 rfl rfl (by kernel_rfl) rfl (by kernel_rfl) (fun w=>by kernel_rfl) ?_
   obtain ⟨s436,hx437,hm438⟩:=bind1E hm433; clear hm433
   refine (store_Heap.ok hS418 hx437).mono ?_
   rintro _ w439 ⟨rfl,hS441⟩ a440 hF442; clear hF434 hS418
   refine ev_runK 2 hF442 [1,2,3,7,50] (l':=[(50,.bool false),(7,nP z52 0),(1,nI x34),(3,nB w),(2,.slice pa2 K2.length ca2)]) (w':=w439) (by kernel_rfl) ?_
   intro a444 hF443; clear hF442
   refine wpList_nil ?_
   exact thenN ⟨s436,false,hF443,hS441,hm438⟩
end Go.Proofs.Ytffnjpapggidlaa
