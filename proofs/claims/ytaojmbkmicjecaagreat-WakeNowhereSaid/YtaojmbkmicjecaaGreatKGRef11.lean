/- GRef11 GRef11b -/
import Derived.Test.YtaojmbkmicjecaaGreatKPrimV
import Derived.Test.YtaojmbkmicjecaaGreatKRefArena3
import Derived.Deep.LoopGhost
import Derived.KernelRfl
namespace Go.Proofs.YtaojmbkmicjecaaGreat
open Go.RowKit
set_option maxRecDepth 100000
set_option maxHeartbeats 40000000
set_option linter.unusedVariables false
def ref11_ptr.m (k:Nat) (i0:Int):Option (Int):=(if (decide (i0<0)) then some (wrap64 (0 * 2)) else some (wrap64 (wrap64 (i0 * 2)+1)))
theorem ref11_ptr.ok {w0 w:World} {F0:List Nat} {ps:List Piece} {k:Nat} {i0:Int} {r0:Int} (hS:St w0 F0 (ps) w) (hm:ref11_ptr.m k i0=some r0) :
    Calls Tryz.prog 113 #[nI i0] w fun e w'=>e=.returned (.int .i64 r0)∧St w0 F0 (ps) w':=by
 refine ev_enterL 8 [nI i0] Tryz.func113 rfl rfl (by simp) ?_
 intro a hF
 have hF0:Fr 8 a [(0,nI i0)]:=hF; clear hF
 unfold ref11_ptr.m at hm
 refine wp_seq (wp_region_lit ?_)
 refine ev_runK 1 hF0 [0] (l':=[(0,nI i0)]) (w':=w) (by kernel_rfl) ?_
 intro a2 hF1; clear hF0
 refine wpList_nil (thenN (wp_seq (wp_seq (wp_region_lit ?_))))
 refine ev_runK 2 hF1 [0,4] (l':=[(4,.bool (decide (i0<0))),(0,nI i0)]) (w':=w) (by kernel_rfl) ?_
 intro a4 hF3; clear hF1
 refine wpList_nil (thenN ?_)
 cases hc5:(decide (i0<0))
 case true =>
  rw [hc5] at hF3
  have hm6:=ifYes hc5 hm; clear hm
  refine ev_condT hF3 rfl rfl ?_
  refine wp_seq (wp_region_lit ?_)
  refine ev_call 112 #[nI 0] hF3 rfl rfl (by kernel_rfl) rfl (by kernel_rfl) (fun w=>by kernel_rfl) ?_
  refine (p_rInt hS).mono ?_
  rintro _ w7 ⟨rfl,hS9⟩ a8 hF10; clear hF3 hS
  refine ev_runK 1 hF10 [2] (l':=[(2,nI (wrap64 (0 * 2)))]) (w':=w7) (by kernel_rfl) ?_
  intro a12 hF11; clear hF10
  refine wpList_nil (thenN ?_)
  refine wp_ret ?_
  refine thenR ?_
  obtain rfl:=Option.some.inj hm6
  refine ev_ret hF11 [2] (nI (wrap64 (0 * 2))) rfl rfl rfl ?_
  exact ⟨rfl,hS9⟩
 rw [hc5] at hF3
 have hm14:=ifNot hc5 hm; clear hm
 refine ev_condF hF3 rfl rfl ?_
 refine wp_skip ?_
 have hF15:=hF3.keep [0]
 clear hF3
 refine thenN (wp_seq (wp_region_lit ?_))
 refine ev_runs 1 hF15 (l':=[(6,nI i0),(0,nI i0)]) (w':=w) (by kernel_rfl) ?_
 intro a17 hF16; clear hF15
 refine ev_call 151 #[nI i0] hF16 rfl rfl (by kernel_rfl) rfl (by kernel_rfl) (fun w=>by kernel_rfl) ?_
 refine (p_rPtr hS).mono ?_
 rintro _ w18 ⟨rfl,hS20⟩ a19 hF21; clear hF16 hS
 refine ev_runK 1 hF21 [2] (l':=[(2,nI (wrap64 (wrap64 (i0 * 2)+1)))]) (w':=w18) (by kernel_rfl) ?_
 intro a23 hF22; clear hF21
 refine wpList_nil (thenN ?_)
 refine wp_ret ?_
 obtain rfl:=Option.some.inj hm14
 refine ev_ret hF22 [2] (nI (wrap64 (wrap64 (i0 * 2)+1))) rfl rfl rfl ?_
 exact ⟨rfl,hS20⟩
def ref11_number.m (k:Nat) (i0:Int):Option (Int):=bind1 (pNum i0) fun x5=>some (x5)
theorem ref11_number.ok {w0 w:World} {F0:List Nat} {ps:List Piece} {k:Nat} {i0:Int} {r0:Int} (hS:St w0 F0 (ps) w) (hm:ref11_number.m k i0=some r0) :
    Calls Tryz.prog 122 #[nI i0] w fun e w'=>e=.returned (.int .i64 r0)∧St w0 F0 (ps) w':=by
 refine ev_enterL 5 [nI i0] Tryz.func122 rfl rfl (by simp) ?_
 intro a hF
 have hF0:Fr 5 a [(0,nI i0)]:=hF; clear hF
 unfold ref11_number.m at hm
 refine wp_seq (wp_region_lit ?_)
 refine ev_runK 1 hF0 [0] (l':=[(0,nI i0)]) (w':=w) (by kernel_rfl) ?_
 intro a2 hF1; clear hF0
 refine wpList_nil (thenN (wp_seq (wp_region_lit ?_)))
 refine ev_runs 1 hF1 (l':=[(3,nI i0),(0,nI i0)]) (w':=w) (by kernel_rfl) ?_
 intro a4 hF3; clear hF1
 refine ev_call 154 #[nI i0] hF3 rfl rfl (by kernel_rfl) rfl (by kernel_rfl) (fun w=>by kernel_rfl) ?_
 obtain ⟨x5,hx6,hm7⟩:=bind1E hm; clear hm
 refine (p_rNum hS hx6).mono ?_
 rintro _ w8 ⟨rfl,hS10⟩ a9 hF11; clear hF3 hS
 refine ev_runK 1 hF11 [2] (l':=[(2,nI x5)]) (w':=w8) (by kernel_rfl) ?_
 intro a13 hF12; clear hF11
 refine wpList_nil (thenN ?_)
 refine wp_ret ?_
 obtain rfl:=Option.some.inj hm7
 refine ev_ret hF12 [2] (nI x5) rfl rfl rfl ?_
 exact ⟨rfl,hS10⟩
def ref11_place.m (k:Nat) (i0:Int):Option (Int):=bind1 (pAt i0) fun x5=>some (x5)
theorem ref11_place.ok {w0 w:World} {F0:List Nat} {ps:List Piece} {k:Nat} {i0:Int} {r0:Int} (hS:St w0 F0 (ps) w) (hm:ref11_place.m k i0=some r0) :
    Calls Tryz.prog 123 #[nI i0] w fun e w'=>e=.returned (.int .i64 r0)∧St w0 F0 (ps) w':=by
 refine ev_enterL 5 [nI i0] Tryz.func123 rfl rfl (by simp) ?_
 intro a hF
 have hF0:Fr 5 a [(0,nI i0)]:=hF; clear hF
 unfold ref11_place.m at hm
 refine wp_seq (wp_region_lit ?_)
 refine ev_runK 1 hF0 [0] (l':=[(0,nI i0)]) (w':=w) (by kernel_rfl) ?_
 intro a2 hF1; clear hF0
 refine wpList_nil (thenN (wp_seq (wp_region_lit ?_)))
 refine ev_runs 1 hF1 (l':=[(3,nI i0),(0,nI i0)]) (w':=w) (by kernel_rfl) ?_
 intro a4 hF3; clear hF1
 refine ev_call 138 #[nI i0] hF3 rfl rfl (by kernel_rfl) rfl (by kernel_rfl) (fun w=>by kernel_rfl) ?_
 obtain ⟨x5,hx6,hm7⟩:=bind1E hm; clear hm
 refine (p_rAt hS hx6).mono ?_
 rintro _ w8 ⟨rfl,hS10⟩ a9 hF11; clear hF3 hS
 refine ev_runK 1 hF11 [2] (l':=[(2,nI x5)]) (w':=w8) (by kernel_rfl) ?_
 intro a13 hF12; clear hF11
 refine wpList_nil (thenN ?_)
 refine wp_ret ?_
 obtain rfl:=Option.some.inj hm7
 refine ev_ret hF12 [2] (nI x5) rfl rfl rfl ?_
 exact ⟨rfl,hS10⟩
def ref11_words.l2b (s0:HSt) (i1:Int) (i2:Int) (rec45:List Int→Int→Option (List Int×Int×HSt)) (L40:List Int) (x42:Int):Option (List Int×Int×HSt):=(if (decide (x42<(rNeed i2 0))) then bind2 (pLoad i1 x42 s0) fun x66 x67=>bind1 (pushM L40 x66) fun L79=>rec45 L79 (IntKind.i64.wrap (x42+1)) else some (L40,0,s0))
def ref11_words.l2 (s0:HSt) (i1:Int) (i2:Int):Nat→List Int→Int→Option (List Int×Int×HSt)
  | 0=>fun _ _=>none
  | kI+1=>ref11_words.l2b s0 i1 i2 (ref11_words.l2 s0 i1 i2 kI)
def ref11_words.j1 (s0:HSt) (i1:Int) (i2:Int) (k:Nat) (y14:Bool):Option (List Int×Int×HSt):=(if (y14) then some ([],10,s0) else ref11_words.l2 s0 i1 i2 k [] 0)
def ref11_words.m (k:Nat) (s0:HSt) (i1:Int) (i2:Int):Option (List Int×Int×HSt):=(if ((aKind s0.a.c i1) != i2) then ref11_words.j1 s0 i1 i2 k true else ref11_words.j1 s0 i1 i2 k ((aLen s0.a.c i1) != (rNeed i2 0)))
theorem ref11_words.ok {w0 w:World} {F0:List Nat} {ps:List Piece} {k:Nat} {b0 ab0 sb0 g0 cb0:Nat} {s0:HSt} {i1:Int} {i2:Int} {r0:List Int} {r1:Int} {t0:HSt} (hS:St w0 F0 (RHeapP b0 ab0 sb0 g0 cb0 s0::ps) w) (hm:ref11_words.m k s0 i1 i2=some (r0,r1,t0)) :
    Calls Tryz.prog 121 #[nP b0 0,nI i1,nI i2] w fun e w'=>∃ vr0,e=.returned (.tuple #[vr0,.int .i64 r1])∧St w0 F0 (RHeapP b0 ab0 sb0 g0 cb0 t0::RowP vr0 r0::ps) w':=by
 refine ev_enterL 57 [nP b0 0,nI i1,nI i2] Tryz.func121 rfl rfl (by simp) ?_
 intro a hF
 have hF0:Fr 57 a [(0,nP b0 0),(1,nI i1),(2,nI i2)]:=hF; clear hF
 unfold ref11_words.m at hm
 refine wp_seq (wp_region_lit ?_)
 have hS2:St w0 F0 (RowP (.slice none 0 0) []::RHeapP b0 ab0 sb0 g0 cb0 s0::ps) w:=St.nil hS
 refine ev_runK 2 hF0 [0,1,2] (l':=[(0,nP b0 0),(1,nI i1),(2,nI i2)]) (w':=w) (by kernel_rfl) ?_
 intro a4 hF3; clear hF0
 refine wpList_nil ?_
 have hS5:=hS2.drop
 clear hS2
 refine thenN (wp_seq (wp_region_lit ?_))
 refine ev_runs 1 hF3 (l':=[(15,nI i2),(0,nP b0 0),(1,nI i1),(2,nI i2)]) (w':=w) (by kernel_rfl) ?_
 intro a7 hF6; clear hF3
 refine ev_call 153 #[nI i2,nI 0] hF6 rfl rfl (by kernel_rfl) rfl (by kernel_rfl) (fun w=>by kernel_rfl) ?_
 refine (q_Need hS5).mono ?_
 rintro _ w8 ⟨rfl,hS10⟩ a9 hF11; clear hF6 hS5
 refine ev_runK 5 hF11 [0,1,2,8] (l':=[(8,nI (rNeed i2 0)),(0,nP b0 0),(1,nI i1),(2,nI i2)]) (w':=w8) (by kernel_rfl) ?_
 intro a13 hF12; clear hF11
 refine wpList_nil (thenN (wp_seq (wp_seq ?_)))
 refine joinQ (fun aI wI=>∃ (y14:Bool),Fr 57 aI [(36,.bool (y14)),(8,nI (rNeed i2 0)),(0,nP b0 0),(1,nI i1)]∧St w0 F0 (RHeapP b0 ab0 sb0 g0 cb0 s0::ps) wI∧ref11_words.j1 s0 i1 i2 k y14=some (r0,r1,t0)) ?_ ?_
 rotate_left
 · rintro a16 w17 ⟨y14,hF18,hS19,hm20⟩
   clear hF12 hS10 hm
   unfold ref11_words.j1 at hm20
   refine thenN ?_
   cases hc22:(y14)
   case true =>
    rw [hc22] at hF18
    have hm23:=ifYes hc22 hm20; clear hm20
    refine ev_condT hF18 rfl rfl ?_
    refine wp_seq (wp_region_lit ?_)
    have hS25:St w0 F0 (RowP (.slice none 0 0) []::RHeapP b0 ab0 sb0 g0 cb0 s0::ps) w17:=St.nil hS19
    clear hS19
    refine ev_runK 2 hF18 [6,7] (l':=[(7,nI 10),(6,.slice none 0 0)]) (w':=w17) (by kernel_rfl) ?_
    intro a27 hF26; clear hF18
    refine wpList_nil (thenN ?_)
    refine wp_ret ?_
    refine thenR ?_
    have hS28:=hS25.pick1
    clear hS25
    simp only [Option.some.injEq,Prod.mk.injEq] at hm23
    obtain ⟨rfl,rfl,rfl⟩:=hm23
    refine ev_ret hF26 [6,7] (.tuple #[.slice none 0 0,nI 10]) rfl rfl rfl ?_
    exact ⟨_,rfl,hS28⟩
   rw [hc22] at hF18
   have hm32:=ifNot hc22 hm20; clear hm20
   refine ev_condF hF18 rfl rfl ?_
   refine wp_skip ?_
   have hF33:=hF18.keep [0,1,8]
   clear hF18
   refine thenN (wp_seq (wp_region_lit ?_))
   have hS35:St w0 F0 (RowP (.slice none 0 0) []::RHeapP b0 ab0 sb0 g0 cb0 s0::ps) w17:=St.nil hS19
   clear hS19
   refine ev_runs 1 hF33 (l':=[(10,.slice none 0 0),(8,nI (rNeed i2 0)),(0,nP b0 0),(1,nI i1)]) (w':=w17) (by kernel_rfl) ?_
   intro a37 hF36; clear hF33
   refine wpList_nil (thenN (wp_seq (wp_seq (wp_region_lit ?_))))
   refine ev_runs 1 hF36 (l':=[(11,nI 0),(10,.slice none 0 0),(8,nI (rNeed i2 0)),(0,nP b0 0),(1,nI i1)]) (w':=w17) (by kernel_rfl) ?_
   intro a39 hF38; clear hF36
   refine wpList_nil (thenN ?_)
   refine wp_block ?_
   refine wp_loop_ghost (fun kI aI wI=>∃ (v41:Value) (L40:List Int) (x42:Int),Fr 57 aI [(11,nI x42),(10,v41),(8,nI (rNeed i2 0)),(0,nP b0 0),(1,nI i1)]∧St w0 F0 (RowP (v41) L40::RHeapP b0 ab0 sb0 g0 cb0 s0::ps) wI∧ref11_words.l2 s0 i1 i2 kI L40 x42=some (r0,r1,t0)) k ⟨.slice none 0 0,[],0,hF38,hS35,hm32⟩ ?_
   rintro k43 a44 w45 ⟨v41,L40,x42,hF46,hS47,hm48⟩
   clear hF38 hS35 hm32
   rcases k43 with _ | k43
   · cases hm48
   have hm49:ref11_words.l2b s0 i1 i2 (ref11_words.l2 s0 i1 i2 k43) L40 x42=some (r0,r1,t0):=hm48
   clear hm48
   unfold ref11_words.l2b at hm49
   obtain ⟨hl53,p50,c51,rfl,hp52⟩:=St.shape hS47 0 rfl
   refine wp_seq (wp_seq (wp_region_lit ?_))
   refine ev_runK 3 hF46 [0,1,8,10,11,39] (l':=[(39,.bool (decide (x42<(rNeed i2 0)))),(11,nI x42),(10,.slice p50 L40.length c51),(8,nI (rNeed i2 0)),(0,nP b0 0),(1,nI i1)]) (w':=w45) (by kernel_rfl) ?_
   intro a55 hF54; clear hF46
   refine wpList_nil (thenN ?_)
   cases hc56:(decide (x42<(rNeed i2 0)))
   case true =>
    rw [hc56] at hF54
    have hm57:=ifYes hc56 hm49; clear hm49
    refine ev_condT hF54 rfl rfl ?_
    refine wp_skip ?_
    have hF58:=hF54.keep [0,1,8,10,11]
    clear hF54
    refine thenN (wp_seq ?_)
    refine wp_block ?_
    refine wp_seq (wp_region_lit ?_)
    refine ev_runs 3 hF58 (l':=[(45,nP b0 0),(44,nP b0 0),(43,nP b0 0),(11,nI x42),(10,.slice p50 L40.length c51),(8,nI (rNeed i2 0)),(0,nP b0 0),(1,nI i1)]) (w':=w45) (by kernel_rfl) ?_
    intro a60 hF59; clear hF58
    refine ev_one (nP ab0 0) w45 hF59 (by kernel_rfl) rfl (by kernel_rfl) (run_loadV rfl rfl (run_loadS rfl rfl (St.rhsee (k:=1) hS47 rfl).1)) (l':=[(46,nP ab0 0),(45,nP b0 0),(44,nP b0 0),(43,nP b0 0),(11,nI x42),(10,.slice p50 L40.length c51),(8,nI (rNeed i2 0)),(0,nP b0 0),(1,nI i1)]) (by kernel_rfl) ?_
    intro a62 hF61; clear hF59
    refine ev_runs 2 hF61 (l':=[(48,nI x42),(47,nI i1),(46,nP ab0 0),(45,nP b0 0),(44,nP b0 0),(43,nP b0 0),(11,nI x42),(10,.slice p50 L40.length c51),(8,nI (rNeed i2 0)),(0,nP b0 0),(1,nI i1)]) (w':=w45) (by kernel_rfl) ?_
    intro a64 hF63; clear hF61
    have hS65:=hS47.pick1
    clear hS47
    refine ev_call 98 #[nP ab0 0,nI i1,nI x42] hF63 rfl rfl (by kernel_rfl) rfl (by kernel_rfl) (fun w=>by kernel_rfl) ?_
    obtain ⟨x66,x67,hx68,hm69⟩:=bind2E hm57; clear hm57
    refine (q_Load hS65 hx68).mono ?_
    rintro _ w70 ⟨rfl,hS72⟩ a71 hF73; clear hF63 hS65
    refine ev_runK 5 hF73 [0,1,8,10,11,12] (l':=[(12,nI x66),(11,nI x42),(10,.slice p50 L40.length c51),(8,nI (rNeed i2 0)),(0,nP b0 0),(1,nI i1)]) (w':=w70) (by kernel_rfl) ?_
    intro a75 hF74; clear hF73
    refine wpList_nil (thenN (wp_region_lit ?_))
    refine ev_runs 3 hF74 (l':=[(54,.slice (some ⟨w70.heap.size,0,none⟩) 1 1),(53,nI x66),(52,.slice p50 L40.length c51),(12,nI x66),(11,nI x42),(10,.slice p50 L40.length c51),(8,nI (rNeed i2 0)),(0,nP b0 0),(1,nI i1)]) (w':=w70.alloc (.cells #[nI x66] 3)) (by kernel_rfl) ?_
    intro a77 hF76; clear hF74
    have hS78:=hS72.pick1
    clear hS72
    obtain ⟨L79,hx80,hm81⟩:=bind1E hm69; clear hm69
    refine ev_push 55 (.tmp 52) (.tmp 54) hF76 rfl rfl rfl rfl rfl rfl rfl rfl hS78 hx80 ?_
    intro g82 c83 w84 a85 hS86 hF87; clear hF76 hS78
    refine ev_runK 1 hF87 [0,1,8,10,11] (l':=[(10,nS g82 L79 c83),(11,nI x42),(8,nI (rNeed i2 0)),(0,nP b0 0),(1,nI i1)]) (w':=w84) (by kernel_rfl) ?_
    intro a89 hF88; clear hF87
    refine wpList_nil ?_
    refine blockN ?_
    refine thenN (wp_region_lit ?_)
    refine ev_runK 3 hF88 [0,1,8,10,11] (l':=[(11,nI (IntKind.i64.wrap (x42+1))),(10,nS g82 L79 c83),(8,nI (rNeed i2 0)),(0,nP b0 0),(1,nI i1)]) (w':=w84) (by kernel_rfl) ?_
    intro a91 hF90; clear hF88
    refine wpList_nil ?_
    exact thenN ⟨k43,Nat.lt_succ_self _,nS g82 L79 c83,L79,IntKind.i64.wrap (x42+1),hF90,hS86,hm81⟩
   rw [hc56] at hF54
   have hm92:=ifNot hc56 hm49; clear hm49
   refine ev_condF hF54 rfl rfl ?_
   refine wp_exit ?_
   refine thenE ?_
   refine thenE ?_
   refine blockE ?_
   refine thenN (wp_seq (wp_region_lit ?_))
   refine ev_runK 3 hF54 [6,7] (l':=[(7,nI 0),(6,.slice p50 L40.length c51)]) (w':=w45) (by kernel_rfl) ?_
   intro a94 hF93; clear hF54
   refine wpList_nil (thenN ?_)
   refine wp_ret ?_
   have hS95:=hS47.pick1
   clear hS47
   simp only [Option.some.injEq,Prod.mk.injEq] at hm92
   obtain ⟨rfl,rfl,rfl⟩:=hm92
   refine ev_ret hF93 [6,7] (.tuple #[.slice p50 L40.length c51,nI 0]) rfl rfl rfl ?_
   exact ⟨_,rfl,hS95⟩
 · skip
   refine wp_region_lit ?_
   refine ev_runs 3 hF12 (l':=[(21,nP b0 0),(20,nP b0 0),(19,nP b0 0),(8,nI (rNeed i2 0)),(0,nP b0 0),(1,nI i1),(2,nI i2)]) (w':=w8) (by kernel_rfl) ?_
   intro a100 hF99; clear hF12
   refine ev_one (nP ab0 0) w8 hF99 (by kernel_rfl) rfl (by kernel_rfl) (run_loadV rfl rfl (run_loadS rfl rfl (St.rhsee (k:=0) hS10 rfl).1)) (l':=[(22,nP ab0 0),(21,nP b0 0),(20,nP b0 0),(19,nP b0 0),(8,nI (rNeed i2 0)),(0,nP b0 0),(1,nI i1),(2,nI i2)]) (by kernel_rfl) ?_
   intro a102 hF101; clear hF99
   refine ev_runs 1 hF101 (l':=[(23,nI i1),(22,nP ab0 0),(21,nP b0 0),(20,nP b0 0),(19,nP b0 0),(8,nI (rNeed i2 0)),(0,nP b0 0),(1,nI i1),(2,nI i2)]) (w':=w8) (by kernel_rfl) ?_
   intro a104 hF103; clear hF101
   refine ev_call 134 #[nP ab0 0,nI i1] hF103 rfl rfl (by kernel_rfl) rfl (by kernel_rfl) (fun w=>by kernel_rfl) ?_
   refine (q_Kind hS10).mono ?_
   rintro _ w105 ⟨rfl,hS107⟩ a106 hF108; clear hF103 hS10
   refine ev_runs 3 hF108 (l':=[(27,.bool ((aKind s0.a.c i1) != i2)),(26,.bool ((aKind s0.a.c i1) != i2)),(25,nI i2),(24,nI (aKind s0.a.c i1)),(23,nI i1),(22,nP ab0 0),(21,nP b0 0),(20,nP b0 0),(19,nP b0 0),(8,nI (rNeed i2 0)),(0,nP b0 0),(1,nI i1),(2,nI i2)]) (w':=w105) (by kernel_rfl) ?_
   intro a110 hF109; clear hF108
   cases hc111:((aKind s0.a.c i1) != i2)
   case true =>
    rw [hc111] at hF109
    have hm112:=ifYes hc111 hm; clear hm
    refine ev_runK 9 hF109 [0,1,8,36] (l':=[(36,.bool true),(8,nI (rNeed i2 0)),(0,nP b0 0),(1,nI i1)]) (w':=w105) (by kernel_rfl) ?_
    intro a114 hF113; clear hF109
    refine wpList_nil ?_
    exact thenN ⟨true,hF113,hS107,hm112⟩
   rw [hc111] at hF109
   have hm115:=ifNot hc111 hm; clear hm
   refine ev_runs 3 hF109 (l':=[(30,nP b0 0),(29,nP b0 0),(28,nP b0 0),(27,.bool false),(26,.bool false),(25,nI i2),(24,nI (aKind s0.a.c i1)),(23,nI i1),(22,nP ab0 0),(21,nP b0 0),(20,nP b0 0),(19,nP b0 0),(8,nI (rNeed i2 0)),(0,nP b0 0),(1,nI i1),(2,nI i2)]) (w':=w105) (by kernel_rfl) ?_
   intro a117 hF116; clear hF109
   refine ev_one (nP ab0 0) w105 hF116 (by kernel_rfl) rfl (by kernel_rfl) (run_loadV rfl rfl (run_loadS rfl rfl (St.rhsee (k:=0) hS107 rfl).1)) (l':=[(31,nP ab0 0),(30,nP b0 0),(29,nP b0 0),(28,nP b0 0),(27,.bool false),(26,.bool false),(25,nI i2),(24,nI (aKind s0.a.c i1)),(23,nI i1),(22,nP ab0 0),(21,nP b0 0),(20,nP b0 0),(19,nP b0 0),(8,nI (rNeed i2 0)),(0,nP b0 0),(1,nI i1),(2,nI i2)]) (by kernel_rfl) ?_
   intro a119 hF118; clear hF116
   refine ev_runs 1 hF118 (l':=[(32,nI i1),(31,nP ab0 0),(30,nP b0 0),(29,nP b0 0),(28,nP b0 0),(27,.bool false),(26,.bool false),(25,nI i2),(24,nI (aKind s0.a.c i1)),(23,nI i1),(22,nP ab0 0),(21,nP b0 0),(20,nP b0 0),(19,nP b0 0),(8,nI (rNeed i2 0)),(0,nP b0 0),(1,nI i1),(2,nI i2)]) (w':=w105) (by kernel_rfl) ?_
   intro a121 hF120; clear hF118
   refine ev_call 108 #[nP ab0 0,nI i1] hF120 rfl rfl (by kernel_rfl) rfl (by kernel_rfl) (fun w=>by kernel_rfl) ?_
   refine (q_Len hS107).mono ?_
   rintro _ w122 ⟨rfl,hS124⟩ a123 hF125; clear hF120 hS107
   refine ev_runK 3 hF125 [0,1,8,36] (l':=[(36,.bool ((aLen s0.a.c i1) != (rNeed i2 0))),(8,nI (rNeed i2 0)),(0,nP b0 0),(1,nI i1)]) (w':=w122) (by kernel_rfl) ?_
   intro a127 hF126; clear hF125
   refine wpList_nil ?_
   exact thenN ⟨(aLen s0.a.c i1) != (rNeed i2 0),hF126,hS124,hm115⟩
def ref11_put.j7 (x29:Int) (rec33:HSt→Int→Int→Option (Int×HSt)) (s59:HSt) (x60:Int):Option (Int×HSt):=rec33 s59 (IntKind.i64.wrap (x29+1)) x60
def ref11_put.j6 (i1:Int) (L3:List Int) (L9:List Int) (s28:HSt) (x29:Int) (x30:Int) (rec33:HSt→Int→Int→Option (Int×HSt)) (y38:Bool):Option (Int×HSt):=(if (y38) then (if (inR x29 L9.length) then (if (inR x29 L3.length) then (if ((atI L9 x29) != (atI L3 x29)) then bind2 (pStore i1 x29 (atI L3 x29) s28) fun x80 s81=>ref11_put.j7 x29 rec33 s81 x80 else ref11_put.j7 x29 rec33 s28 x30) else none) else none) else some (x30,s28))
def ref11_put.l5b (i1:Int) (L3:List Int) (L9:List Int) (rec33:HSt→Int→Int→Option (Int×HSt)) (s28:HSt) (x29:Int) (x30:Int):Option (Int×HSt):=(if (decide (x29<(L9.length:Int))) then ref11_put.j6 i1 L3 L9 s28 x29 x30 rec33 (x30 == 0) else ref11_put.j6 i1 L3 L9 s28 x29 x30 rec33 false)
def ref11_put.l5 (i1:Int) (L3:List Int) (L9:List Int):Nat→HSt→Int→Int→Option (Int×HSt)
  | 0=>fun _ _ _=>none
  | kI+1=>ref11_put.l5b i1 L3 L9 (ref11_put.l5 i1 L3 L9 kI)
def ref11_put.m (k:Nat) (s0:HSt) (i1:Int) (i2:Int) (L3:List Int):Option (Int×HSt):=bind3 (ref11_words.m k s0 i1 i2) fun L9 x10 s11=>ref11_put.l5 i1 L3 L9 k s11 0 x10
theorem ref11_put.ok {w0 w:World} {F0:List Nat} {ps:List Piece} {k:Nat} {b0 ab0 sb0 g0 cb0:Nat} {s0:HSt} {i1:Int} {i2:Int} {v3:Value} {L3:List Int} {r0:Int} {t0:HSt} (hS:St w0 F0 (RHeapP b0 ab0 sb0 g0 cb0 s0::RowP (v3) L3::ps) w) (hm:ref11_put.m k s0 i1 i2 L3=some (r0,t0)) :
    Calls Tryz.prog 111 #[nP b0 0,nI i1,nI i2,v3] w fun e w'=>e=.returned (.int .i64 r0)∧St w0 F0 (RHeapP b0 ab0 sb0 g0 cb0 t0::RowP (v3) L3::ps) w':=by
 refine ev_enterL 47 [nP b0 0,nI i1,nI i2,v3] Tryz.func111 rfl rfl (by simp) ?_
 intro a hF
 have hF0:Fr 47 a [(0,nP b0 0),(1,nI i1),(2,nI i2),(3,v3)]:=hF; clear hF
 unfold ref11_put.m at hm
 obtain ⟨hl4,p1,c2,rfl,hp3⟩:=St.shape hS 1 rfl
 refine wp_seq (wp_region_lit ?_)
 refine ev_runK 1 hF0 [0,1,2,3] (l':=[(0,nP b0 0),(1,nI i1),(2,nI i2),(3,.slice p1 L3.length c2)]) (w':=w) (by kernel_rfl) ?_
 intro a6 hF5; clear hF0
 refine wpList_nil (thenN (wp_seq (wp_region_lit ?_)))
 refine ev_runs 3 hF5 (l':=[(15,nI i2),(14,nI i1),(13,nP b0 0),(0,nP b0 0),(1,nI i1),(2,nI i2),(3,.slice p1 L3.length c2)]) (w':=w) (by kernel_rfl) ?_
 intro a8 hF7; clear hF5
 refine ev_call 121 #[nP b0 0,nI i1,nI i2] hF7 rfl rfl (by kernel_rfl) rfl (by kernel_rfl) (fun w=>by kernel_rfl) ?_
 obtain ⟨L9,x10,s11,hx12,hm13⟩:=bind3E hm; clear hm
 refine (ref11_words.ok hS hx12).mono ?_
 rintro _ w14 ⟨z18,rfl,hS16⟩ a15 hF17; clear hF7 hS
 obtain ⟨hl23,p20,c21,rfl,hp22⟩:=St.shape hS16 1 rfl
 refine ev_runK 5 hF17 [0,1,3,9,10] (l':=[(10,nI x10),(9,.slice p20 L9.length c21),(0,nP b0 0),(1,nI i1),(3,.slice p1 L3.length c2)]) (w':=w14) (by kernel_rfl) ?_
 intro a25 hF24; clear hF17
 refine wpList_nil (thenN (wp_seq (wp_seq (wp_region_lit ?_))))
 refine ev_runs 1 hF24 (l':=[(11,nI 0),(10,nI x10),(9,.slice p20 L9.length c21),(0,nP b0 0),(1,nI i1),(3,.slice p1 L3.length c2)]) (w':=w14) (by kernel_rfl) ?_
 intro a27 hF26; clear hF24
 refine wpList_nil (thenN ?_)
 refine wp_block ?_
 refine wp_loop_ghost (fun kI aI wI=>∃ (s28:HSt) (x29:Int) (x30:Int),Fr 47 aI [(11,nI x29),(10,nI x30),(9,.slice p20 L9.length c21),(0,nP b0 0),(1,nI i1),(3,.slice p1 L3.length c2)]∧St w0 F0 (RHeapP b0 ab0 sb0 g0 cb0 s28::RowP (.slice p20 L9.length c21) L9::RowP (.slice p1 L3.length c2) L3::ps) wI∧ref11_put.l5 i1 L3 L9 kI s28 x29 x30=some (r0,t0)) k ⟨s11,0,x10,hF26,hS16,hm13⟩ ?_
 rintro k31 a32 w33 ⟨s28,x29,x30,hF34,hS35,hm36⟩
 clear hF26 hS16 hm13
 rcases k31 with _ | k31
 · cases hm36
 have hm37:ref11_put.l5b i1 L3 L9 (ref11_put.l5 i1 L3 L9 k31) s28 x29 x30=some (r0,t0):=hm36
 clear hm36
 unfold ref11_put.l5b at hm37
 refine wp_seq (wp_seq ?_)
 refine joinQ (fun aI wI=>∃ (y38:Bool),Fr 47 aI [(26,.bool (y38)),(11,nI x29),(10,nI x30),(9,.slice p20 L9.length c21),(0,nP b0 0),(1,nI i1),(3,.slice p1 L3.length c2)]∧St w0 F0 (RHeapP b0 ab0 sb0 g0 cb0 s28::RowP (.slice p20 L9.length c21) L9::RowP (.slice p1 L3.length c2) L3::ps) wI∧ref11_put.j6 i1 L3 L9 s28 x29 x30 (ref11_put.l5 i1 L3 L9 k31) y38=some (r0,t0)) ?_ ?_
 rotate_left
 · rintro a40 w41 ⟨y38,hF42,hS43,hm44⟩
   clear hF34 hS35 hm37
   unfold ref11_put.j6 at hm44
   refine thenN ?_
   cases hc46:(y38)
   case true =>
    rw [hc46] at hF42
    have hm47:=ifYes hc46 hm44; clear hm44
    refine ev_condT hF42 rfl rfl ?_
    refine wp_skip ?_
    have hF48:=hF42.keep [0,1,3,9,10,11]
    clear hF42
    refine thenN (wp_seq ?_)
    refine wp_block ?_
    refine wp_seq ?_
    obtain ⟨hc49,hm50⟩:=ifTE hm47; clear hm47
    obtain ⟨g51,rfl⟩:=hp22.resolve_left (by have:=inR_spec hc49; omega)
    obtain ⟨hc52,hm53⟩:=ifTE hm50; clear hm50
    obtain ⟨g54,rfl⟩:=hp3.resolve_left (by have:=inR_spec hc52; omega)
    have hS55:=hS43.pick2.pick2
    clear hS43
    have hS56:=hS55.drew; clear hS55
    refine any_start (fun wS=>∃ qs,St w0 F0 (RowP (nS g51 L9 c21) L9::RowP (nS g54 L3 c2) L3::qs) wS) 9 #[false,false,false,false,false,false,false,false,false] (by kernel_rfl) (by kernel_rfl) (by kernel_rfl) ?_
    refine any_many 9 [(0,some (nS g51 L9 c21)),(1,some (nI x29)),(2,some (nP g51 (x29.toNat))),(3,some (nI (atI L9 x29))),(4,some (nS g54 L3 c2)),(5,some (nI x29)),(6,some (nP g54 (x29.toNat))),(7,some (nI (atI L3 x29))),(8,some (.bool ((atI L9 x29) != (atI L3 x29))))] [0,1,3,9,10,11,37] #[true,true,true,true,true,true,true,true,true] (by rfl) hF48 (by kernel_rfl) (by kernel_rfl) (by exact ⟨fun wS hw=>by kernel_rfl,fun wS hw=>by kernel_rfl,fun wS hw=>run_idx rfl rfl rfl rfl rfl (inR_spec hc49).1 (inR_spec hc49).2 _,fun wS hw=>run_load1 rfl rfl rfl (hw.elim fun qs hw=>hw.atI 0 rfl hc49),fun wS hw=>by kernel_rfl,fun wS hw=>by kernel_rfl,fun wS hw=>run_idx rfl rfl rfl rfl rfl (inR_spec hc52).1 (inR_spec hc52).2 _,fun wS hw=>run_load1 rfl rfl rfl (hw.elim fun qs hw=>hw.atI 1 rfl hc52),fun wS hw=>by kernel_rfl,trivial⟩) (fun _ _ _ _ _ h=>h) ⟨_,hS56⟩ (l':=[(37,.bool ((atI L9 x29) != (atI L3 x29))),(11,nI x29),(10,nI x30),(9,nS g51 L9 c21),(0,nP b0 0),(1,nI i1),(3,nS g54 L3 c2)]) (by kernel_rfl) ?_
    intro a58 hF57; clear hF48
    refine any_done (by kernel_rfl) ?_
    refine thenN ?_
    refine joinQ (fun aI wI=>∃ (s59:HSt) (x60:Int),Fr 47 aI [(11,nI x29),(10,nI x60),(9,nS g51 L9 c21),(0,nP b0 0),(1,nI i1),(3,nS g54 L3 c2)]∧St w0 F0 (RowP (nS g51 L9 c21) L9::RowP (nS g54 L3 c2) L3::RHeapP b0 ab0 sb0 g0 cb0 s59::ps) wI∧ref11_put.j7 x29 (ref11_put.l5 i1 L3 L9 k31) s59 x60=some (r0,t0)) ?_ ?_
    rotate_left
    · rintro a62 w63 ⟨s59,x60,hF64,hS65,hm66⟩
      clear hF57 hS56 hm53
      unfold ref11_put.j7 at hm66
      refine blockN ?_
      refine thenN (wp_region_lit ?_)
      refine ev_runK 3 hF64 [0,1,3,9,10,11] (l':=[(11,nI (IntKind.i64.wrap (x29+1))),(10,nI x60),(9,nS g51 L9 c21),(0,nP b0 0),(1,nI i1),(3,nS g54 L3 c2)]) (w':=w63) (by kernel_rfl) ?_
      intro a69 hF68; clear hF64
      refine wpList_nil ?_
      have hS70:=hS65.pick1.pick1.pick2
      clear hS65
      exact thenN ⟨k31,Nat.lt_succ_self _,s59,IntKind.i64.wrap (x29+1),x60,hF68,hS70,hm66⟩
    · skip
      cases hc71:((atI L9 x29) != (atI L3 x29))
      case true =>
       rw [hc71] at hF57
       have hm72:=ifYes hc71 hm53; clear hm53
       refine ev_condT hF57 rfl rfl ?_
       refine wp_region_lit ?_
       refine ev_runs 5 hF57 (l':=[(42,nI x29),(41,nS g54 L3 c2),(40,nI x29),(39,nI i1),(38,nP b0 0),(37,.bool true),(11,nI x29),(10,nI x30),(9,nS g51 L9 c21),(0,nP b0 0),(1,nI i1),(3,nS g54 L3 c2)]) (w':=w41.drew) (by kernel_rfl) ?_
       intro a74 hF73; clear hF57
       refine ev_one (nP g54 (x29.toNat)) (w41.drew) hF73 (by kernel_rfl) rfl (by kernel_rfl) (run_idx rfl rfl rfl rfl rfl (inR_spec hc52).1 (inR_spec hc52).2 _) (l':=[(43,nP g54 (x29.toNat)),(42,nI x29),(41,nS g54 L3 c2),(40,nI x29),(39,nI i1),(38,nP b0 0),(37,.bool true),(11,nI x29),(10,nI x30),(9,nS g51 L9 c21),(0,nP b0 0),(1,nI i1),(3,nS g54 L3 c2)]) (by kernel_rfl) ?_
       intro a76 hF75; clear hF73
       refine ev_one (nI (atI L3 x29)) (w41.drew) hF75 (by kernel_rfl) rfl (by kernel_rfl) (run_load1 rfl rfl rfl (hS56.atI 1 rfl hc52)) (l':=[(44,nI (atI L3 x29)),(43,nP g54 (x29.toNat)),(42,nI x29),(41,nS g54 L3 c2),(40,nI x29),(39,nI i1),(38,nP b0 0),(37,.bool true),(11,nI x29),(10,nI x30),(9,nS g51 L9 c21),(0,nP b0 0),(1,nI i1),(3,nS g54 L3 c2)]) (by kernel_rfl) ?_
       intro a78 hF77; clear hF75
       have hS79:=hS56.pick2
       clear hS56
       refine ev_call 99 #[nP b0 0,nI i1,nI x29,nI (atI L3 x29)] hF77 rfl rfl (by kernel_rfl) rfl (by kernel_rfl) (fun w=>by kernel_rfl) ?_
       obtain ⟨x80,s81,hx82,hm83⟩:=bind2E hm72; clear hm72
       refine (q_Store hS79 hx82).mono ?_
       rintro _ w84 ⟨rfl,hS86⟩ a85 hF87; clear hF77 hS79
       refine ev_runK 1 hF87 [0,1,3,9,10,11] (l':=[(10,nI x80),(11,nI x29),(9,nS g51 L9 c21),(0,nP b0 0),(1,nI i1),(3,nS g54 L3 c2)]) (w':=w84) (by kernel_rfl) ?_
       intro a89 hF88; clear hF87
       refine wpList_nil ?_
       have hF90:Fr 47 a89 [(11,nI x29),(10,nI x80),(9,nS g51 L9 c21),(0,nP b0 0),(1,nI i1),(3,nS g54 L3 c2)]:=Fr.re hF88 (by kernel_rfl)
       clear hF88
       have hS91:=hS86.pick2.pick2
       clear hS86
       exact thenN ⟨s81,x80,hF90,hS91,hm83⟩
      rw [hc71] at hF57
      have hm92:=ifNot hc71 hm53; clear hm53
      refine ev_condF hF57 rfl rfl ?_
      refine wp_skip ?_
      have hF93:=hF57.keep [0,1,3,9,10,11]
      clear hF57
      exact thenN ⟨s28,x30,hF93,hS56,hm92⟩
   rw [hc46] at hF42
   have hm94:=ifNot hc46 hm44; clear hm44
   refine ev_condF hF42 rfl rfl ?_
   refine wp_exit ?_
   refine thenE ?_
   refine thenE ?_
   refine blockE ?_
   refine thenN (wp_seq (wp_region_lit ?_))
   refine ev_runK 2 hF42 [8] (l':=[(8,nI x30)]) (w':=w41) (by kernel_rfl) ?_
   intro a96 hF95; clear hF42
   refine wpList_nil ?_
   have hS97:=hS43.pick1.drop
   clear hS43
   refine thenN ?_
   refine wp_ret ?_
   simp only [Option.some.injEq,Prod.mk.injEq] at hm94
   obtain ⟨rfl,rfl⟩:=hm94
   refine ev_ret hF95 [8] (nI x30) rfl rfl rfl ?_
   exact ⟨rfl,hS97⟩
 · skip
   refine wp_region_lit ?_
   refine ev_runs 5 hF34 (l':=[(23,.bool (decide (x29<(L9.length:Int)))),(22,.bool (decide (x29<(L9.length:Int)))),(21,nI ((L9.length:Int))),(20,.slice p20 L9.length c21),(19,nI x29),(11,nI x29),(10,nI x30),(9,.slice p20 L9.length c21),(0,nP b0 0),(1,nI i1),(3,.slice p1 L3.length c2)]) (w':=w33) (by kernel_rfl) ?_
   intro a101 hF100; clear hF34
   cases hc102:(decide (x29<(L9.length:Int)))
   case true =>
    rw [hc102] at hF100
    have hm103:=ifYes hc102 hm37; clear hm37
    refine ev_runK 3 hF100 [0,1,3,9,10,11,26] (l':=[(26,.bool (x30 == 0)),(11,nI x29),(10,nI x30),(9,.slice p20 L9.length c21),(0,nP b0 0),(1,nI i1),(3,.slice p1 L3.length c2)]) (w':=w33) (by kernel_rfl) ?_
    intro a105 hF104; clear hF100
    refine wpList_nil ?_
    exact thenN ⟨x30 == 0,hF104,hS35,hm103⟩
   rw [hc102] at hF100
   have hm106:=ifNot hc102 hm37; clear hm37
   refine ev_runK 3 hF100 [0,1,3,9,10,11,26] (l':=[(26,.bool false),(11,nI x29),(10,nI x30),(9,.slice p20 L9.length c21),(0,nP b0 0),(1,nI i1),(3,.slice p1 L3.length c2)]) (w':=w33) (by kernel_rfl) ?_
   intro a108 hF107; clear hF100
   refine wpList_nil ?_
   exact thenN ⟨false,hF107,hS35,hm106⟩
def ref11_PutChan.m (k:Nat) (s0:HSt) (i1:Int) (i2:Ch):Option (Int×HSt):=bind1 (ref11_ptr.m k i2.buf) fun x26=>bind1 (ref11_ptr.m k i2.th) fun x33=>bind1 (ref11_ptr.m k i2.tt) fun x40=>bind1 (ref11_ptr.m k i2.sh) fun x47=>bind1 (ref11_ptr.m k i2.st) fun x54=>bind2 (ref11_put.m k s0 i1 1 [wrap64 (i2.cap * 2),wrap64 (i2.closed * 2),wrap64 (i2.count * 2),wrap64 (i2.start * 2),x26,x33,x40,x47,x54]) fun x65 s66=>some (x65,s66)
theorem ref11_PutChan.ok {w0 w:World} {F0:List Nat} {ps:List Piece} {k:Nat} {b0 ab0 sb0 g0 cb0:Nat} {s0:HSt} {i1:Int} {i2:Ch} {r0:Int} {t0:HSt} (hS:St w0 F0 (RHeapP b0 ab0 sb0 g0 cb0 s0::ps) w) (hm:ref11_PutChan.m k s0 i1 i2=some (r0,t0)) :
    Calls Tryz.prog 62 #[nP b0 0,nI i1,.agg #[nI (i2.cap),nI (i2.closed),nI (i2.count),nI (i2.start),nI (i2.buf),nI (i2.th),nI (i2.tt),nI (i2.sh),nI (i2.st)]] w fun e w'=>e=.returned (.int .i64 r0)∧St w0 F0 (RHeapP b0 ab0 sb0 g0 cb0 t0::ps) w':=by
 refine ev_enterL 38 [nP b0 0,nI i1,.agg #[nI (i2.cap),nI (i2.closed),nI (i2.count),nI (i2.start),nI (i2.buf),nI (i2.th),nI (i2.tt),nI (i2.sh),nI (i2.st)]] Tryz.func62 rfl rfl (by simp) ?_
 intro a hF
 have hF0:Fr 38 a [(0,nP b0 0),(1,nI i1),(2,.agg #[nI (i2.cap),nI (i2.closed),nI (i2.count),nI (i2.start),nI (i2.buf),nI (i2.th),nI (i2.tt),nI (i2.sh),nI (i2.st)])]:=hF; clear hF
 unfold ref11_PutChan.m at hm
 refine wp_seq (wp_region_lit ?_)
 refine ev_runs 1 hF0 (l':=[(5,nB w),(0,nP b0 0),(1,nI i1),(2,.agg #[nI (i2.cap),nI (i2.closed),nI (i2.count),nI (i2.start),nI (i2.buf),nI (i2.th),nI (i2.tt),nI (i2.sh),nI (i2.st)])]) (w':=w.alloc (.cells #[nI (i2.cap),nI (i2.closed),nI (i2.count),nI (i2.start),nI (i2.buf),nI (i2.th),nI (i2.tt),nI (i2.sh),nI (i2.st)] 37)) (by kernel_rfl) ?_
 intro a2 hF1; clear hF0
 have hS4:St w0 F0 (BlkP (w.heap.size) 37 #[nI (i2.cap),nI (i2.closed),nI (i2.count),nI (i2.start),nI (i2.buf),nI (i2.th),nI (i2.tt),nI (i2.sh),nI (i2.st)]::RHeapP b0 ab0 sb0 g0 cb0 s0::ps) (w.alloc (.cells #[nI (i2.cap),nI (i2.closed),nI (i2.count),nI (i2.start),nI (i2.buf),nI (i2.th),nI (i2.tt),nI (i2.sh),nI (i2.st)] 37)):=St.new hS #[nI (i2.cap),nI (i2.closed),nI (i2.count),nI (i2.start),nI (i2.buf),nI (i2.th),nI (i2.tt),nI (i2.sh),nI (i2.st)] 37
 refine ev_runK 1 hF1 [0,1,5] (l':=[(5,nB w),(0,nP b0 0),(1,nI i1)]) (w':=w.alloc (.cells #[nI (i2.cap),nI (i2.closed),nI (i2.count),nI (i2.start),nI (i2.buf),nI (i2.th),nI (i2.tt),nI (i2.sh),nI (i2.st)] 37)) (by kernel_rfl) ?_
 intro a6 hF5; clear hF1
 refine wpList_nil (thenN (wp_seq ?_))
 have hS7:=hS4.drew; clear hS4
 refine any_start (fun wS=>∃ qs,St w0 F0 (BlkP (w.heap.size) 37 #[nI (i2.cap),nI (i2.closed),nI (i2.count),nI (i2.start),nI (i2.buf),nI (i2.th),nI (i2.tt),nI (i2.sh),nI (i2.st)]::qs) wS) 32 #[false,false,false,false,false,false,false,false,false,false,false,false,false,false,false,false,false,false,false,false,false,false,false,false,false,false,false,false,false,false,false,false] (by kernel_rfl) (by kernel_rfl) (by kernel_rfl) ?_
 refine any_many 20 [(0,some (nP b0 0)),(1,some (nI i1)),(2,some (nB w)),(3,some (nI (i2.cap))),(5,some (nP (w.heap.size) 1)),(6,some (nI (i2.closed))),(8,some (nP (w.heap.size) 2)),(9,some (nI (i2.count))),(11,some (nP (w.heap.size) 3)),(12,some (nI (i2.start))),(14,some (nP (w.heap.size) 4)),(15,some (nI (i2.buf))),(17,some (nP (w.heap.size) 5)),(18,some (nI (i2.th))),(20,some (nP (w.heap.size) 6)),(21,some (nI (i2.tt))),(23,some (nP (w.heap.size) 7)),(24,some (nI (i2.sh))),(26,some (nP (w.heap.size) 8)),(27,some (nI (i2.st)))] [6,7,8,10,11,13,14,16,17,19,20,22,23,25,26,28,29,31,32,34,35,36,37] #[true,true,true,true,false,true,true,false,true,true,false,true,true,false,true,true,false,true,true,false,true,true,false,true,true,false,true,true,false,false,false,false] (by rfl) hF5 (by kernel_rfl) (by kernel_rfl) (by exact ⟨fun wS hw=>by kernel_rfl,fun wS hw=>by kernel_rfl,fun wS hw=>by kernel_rfl,fun wS hw=>hw.elim fun qs hw=>run_loadV rfl rfl (run_loadS rfl rfl (hw.cell 0 rfl 0 rfl)),fun wS hw=>by kernel_rfl,fun wS hw=>hw.elim fun qs hw=>run_loadV rfl rfl (run_loadS rfl rfl (hw.cell 0 rfl 1 rfl)),fun wS hw=>by kernel_rfl,fun wS hw=>hw.elim fun qs hw=>run_loadV rfl rfl (run_loadS rfl rfl (hw.cell 0 rfl 2 rfl)),fun wS hw=>by kernel_rfl,fun wS hw=>hw.elim fun qs hw=>run_loadV rfl rfl (run_loadS rfl rfl (hw.cell 0 rfl 3 rfl)),fun wS hw=>by kernel_rfl,fun wS hw=>hw.elim fun qs hw=>run_loadV rfl rfl (run_loadS rfl rfl (hw.cell 0 rfl 4 rfl)),fun wS hw=>by kernel_rfl,fun wS hw=>hw.elim fun qs hw=>run_loadV rfl rfl (run_loadS rfl rfl (hw.cell 0 rfl 5 rfl)),fun wS hw=>by kernel_rfl,fun wS hw=>hw.elim fun qs hw=>run_loadV rfl rfl (run_loadS rfl rfl (hw.cell 0 rfl 6 rfl)),fun wS hw=>by kernel_rfl,fun wS hw=>hw.elim fun qs hw=>run_loadV rfl rfl (run_loadS rfl rfl (hw.cell 0 rfl 7 rfl)),fun wS hw=>by kernel_rfl,fun wS hw=>hw.elim fun qs hw=>run_loadV rfl rfl (run_loadS rfl rfl (hw.cell 0 rfl 8 rfl)),trivial⟩) (fun _ _ _ _ _ h=>h) ⟨_,hS7⟩ (l':=[(34,nI (i2.st)),(31,nI (i2.sh)),(28,nI (i2.tt)),(25,nI (i2.th)),(22,nI (i2.buf)),(19,nI (i2.start)),(16,nI (i2.count)),(13,nI (i2.closed)),(10,nI (i2.cap)),(8,nI i1),(7,nP b0 0)]) (by kernel_rfl) ?_
 intro a9 hF8; clear hF5
 refine any_call 4 #[true,true,true,true,true,true,true,false,true,true,false,true,true,false,true,true,false,true,true,false,true,true,false,true,true,false,true,true,false,false,false,false] 112 #[nI (i2.cap)] hF8 rfl (by kernel_rfl) rfl rfl (by kernel_rfl) rfl (by kernel_rfl) (fun w=>by kernel_rfl) (by kernel_rfl) ?_
 refine (p_rInt hS7).mono ?_
 rintro _ w10 ⟨rfl,hS12⟩; clear hS7
 refine ⟨⟨_,hS12⟩,?_⟩
 intro a11 hF13; clear hF8
 refine any_call 7 #[true,true,true,true,true,true,true,true,true,true,false,true,true,false,true,true,false,true,true,false,true,true,false,true,true,false,true,true,false,false,false,false] 112 #[nI (i2.closed)] hF13 rfl (by kernel_rfl) rfl rfl (by kernel_rfl) rfl (by kernel_rfl) (fun w=>by kernel_rfl) (by kernel_rfl) ?_
 refine (p_rInt hS12).mono ?_
 rintro _ w14 ⟨rfl,hS16⟩; clear hS12
 refine ⟨⟨_,hS16⟩,?_⟩
 intro a15 hF17; clear hF13
 refine any_call 10 #[true,true,true,true,true,true,true,true,true,true,true,true,true,false,true,true,false,true,true,false,true,true,false,true,true,false,true,true,false,false,false,false] 112 #[nI (i2.count)] hF17 rfl (by kernel_rfl) rfl rfl (by kernel_rfl) rfl (by kernel_rfl) (fun w=>by kernel_rfl) (by kernel_rfl) ?_
 refine (p_rInt hS16).mono ?_
 rintro _ w18 ⟨rfl,hS20⟩; clear hS16
 refine ⟨⟨_,hS20⟩,?_⟩
 intro a19 hF21; clear hF17
 refine any_call 13 #[true,true,true,true,true,true,true,true,true,true,true,true,true,true,true,true,false,true,true,false,true,true,false,true,true,false,true,true,false,false,false,false] 112 #[nI (i2.start)] hF21 rfl (by kernel_rfl) rfl rfl (by kernel_rfl) rfl (by kernel_rfl) (fun w=>by kernel_rfl) (by kernel_rfl) ?_
 refine (p_rInt hS20).mono ?_
 rintro _ w22 ⟨rfl,hS24⟩; clear hS20
 refine ⟨⟨_,hS24⟩,?_⟩
 intro a23 hF25; clear hF21
 refine any_call 16 #[true,true,true,true,true,true,true,true,true,true,true,true,true,true,true,true,true,true,true,false,true,true,false,true,true,false,true,true,false,false,false,false] 113 #[nI (i2.buf)] hF25 rfl (by kernel_rfl) rfl rfl (by kernel_rfl) rfl (by kernel_rfl) (fun w=>by kernel_rfl) (by kernel_rfl) ?_
 obtain ⟨x26,hx27,hm28⟩:=bind1E hm; clear hm
 refine (ref11_ptr.ok hS24 hx27).mono ?_
 rintro _ w29 ⟨rfl,hS31⟩; clear hS24
 refine ⟨⟨_,hS31⟩,?_⟩
 intro a30 hF32; clear hF25
 refine any_call 19 #[true,true,true,true,true,true,true,true,true,true,true,true,true,true,true,true,true,true,true,true,true,true,false,true,true,false,true,true,false,false,false,false] 113 #[nI (i2.th)] hF32 rfl (by kernel_rfl) rfl rfl (by kernel_rfl) rfl (by kernel_rfl) (fun w=>by kernel_rfl) (by kernel_rfl) ?_
 obtain ⟨x33,hx34,hm35⟩:=bind1E hm28; clear hm28
 refine (ref11_ptr.ok hS31 hx34).mono ?_
 rintro _ w36 ⟨rfl,hS38⟩; clear hS31
 refine ⟨⟨_,hS38⟩,?_⟩
 intro a37 hF39; clear hF32
 refine any_call 22 #[true,true,true,true,true,true,true,true,true,true,true,true,true,true,true,true,true,true,true,true,true,true,true,true,true,false,true,true,false,false,false,false] 113 #[nI (i2.tt)] hF39 rfl (by kernel_rfl) rfl rfl (by kernel_rfl) rfl (by kernel_rfl) (fun w=>by kernel_rfl) (by kernel_rfl) ?_
 obtain ⟨x40,hx41,hm42⟩:=bind1E hm35; clear hm35
 refine (ref11_ptr.ok hS38 hx41).mono ?_
 rintro _ w43 ⟨rfl,hS45⟩; clear hS38
 refine ⟨⟨_,hS45⟩,?_⟩
 intro a44 hF46; clear hF39
 refine any_call 25 #[true,true,true,true,true,true,true,true,true,true,true,true,true,true,true,true,true,true,true,true,true,true,true,true,true,true,true,true,false,false,false,false] 113 #[nI (i2.sh)] hF46 rfl (by kernel_rfl) rfl rfl (by kernel_rfl) rfl (by kernel_rfl) (fun w=>by kernel_rfl) (by kernel_rfl) ?_
 obtain ⟨x47,hx48,hm49⟩:=bind1E hm42; clear hm42
 refine (ref11_ptr.ok hS45 hx48).mono ?_
 rintro _ w50 ⟨rfl,hS52⟩; clear hS45
 refine ⟨⟨_,hS52⟩,?_⟩
 intro a51 hF53; clear hF46
 refine any_call 28 #[true,true,true,true,true,true,true,true,true,true,true,true,true,true,true,true,true,true,true,true,true,true,true,true,true,true,true,true,true,false,false,false] 113 #[nI (i2.st)] hF53 rfl (by kernel_rfl) rfl rfl (by kernel_rfl) rfl (by kernel_rfl) (fun w=>by kernel_rfl) (by kernel_rfl) ?_
 obtain ⟨x54,hx55,hm56⟩:=bind1E hm49; clear hm49
 refine (ref11_ptr.ok hS52 hx55).mono ?_
 rintro _ w57 ⟨rfl,hS59⟩; clear hS52
 refine ⟨⟨_,hS59⟩,?_⟩
 intro a58 hF60; clear hF53
 refine any_one 29 (by kernel_rfl) ?_
 have hS61:St w0 F0 (RowP (.slice (some ⟨w57.heap.size,0,none⟩) 9 9) [wrap64 (i2.cap * 2),wrap64 (i2.closed * 2),wrap64 (i2.count * 2),wrap64 (i2.start * 2),x26,x33,x40,x47,x54]::BlkP (w.heap.size) 37 #[nI (i2.cap),nI (i2.closed),nI (i2.count),nI (i2.start),nI (i2.buf),nI (i2.th),nI (i2.tt),nI (i2.sh),nI (i2.st)]::RHeapP b0 ab0 sb0 g0 cb0 s0::ps) (w57.alloc (.cells #[nI (wrap64 (i2.cap * 2)),nI (wrap64 (i2.closed * 2)),nI (wrap64 (i2.count * 2)),nI (wrap64 (i2.start * 2)),nI x26,nI x33,nI x40,nI x47,nI x54] 3)):=St.lit hS59 [wrap64 (i2.cap * 2),wrap64 (i2.closed * 2),wrap64 (i2.count * 2),wrap64 (i2.start * 2),x26,x33,x40,x47,x54] (by unfold maxLen; simp)
 clear hS59
 refine op_step 29 #[true,true,true,true,true,true,true,true,true,true,true,true,true,true,true,true,true,true,true,true,true,true,true,true,true,true,true,true,true,true,false,false] (.slice (some ⟨w57.heap.size,0,none⟩) 9 9) (w57.alloc (.cells #[nI (wrap64 (i2.cap * 2)),nI (wrap64 (i2.closed * 2)),nI (wrap64 (i2.count * 2)),nI (wrap64 (i2.start * 2)),nI x26,nI x33,nI x40,nI x47,nI x54] 3)) hF60 rfl (by kernel_rfl) rfl (by kernel_rfl) (by kernel_rfl) (l':=[(36,.slice (some ⟨w57.heap.size,0,none⟩) 9 9),(35,nI x54),(32,nI x47),(29,nI x40),(26,nI x33),(23,nI x26),(20,nI (wrap64 (i2.start * 2))),(17,nI (wrap64 (i2.count * 2))),(14,nI (wrap64 (i2.closed * 2))),(11,nI (wrap64 (i2.cap * 2))),(34,nI (i2.st)),(31,nI (i2.sh)),(28,nI (i2.tt)),(25,nI (i2.th)),(22,nI (i2.buf)),(19,nI (i2.start)),(16,nI (i2.count)),(13,nI (i2.closed)),(10,nI (i2.cap)),(8,nI i1),(7,nP b0 0)]) (by kernel_rfl) ⟨_,hS61.pick1⟩ (by kernel_rfl) ?_
 intro a63 hF62; clear hF60
 have hS64:=hS61.pick2
 clear hS61
 refine any_call 30 #[true,true,true,true,true,true,true,true,true,true,true,true,true,true,true,true,true,true,true,true,true,true,true,true,true,true,true,true,true,true,true,false] 111 #[nP b0 0,nI i1,nI 1,.slice (some ⟨w57.heap.size,0,none⟩) 9 9] hF62 rfl (by kernel_rfl) rfl rfl (by kernel_rfl) rfl (by kernel_rfl) (fun w=>by kernel_rfl) (by kernel_rfl) ?_
 obtain ⟨x65,s66,hx67,hm68⟩:=bind2E hm56; clear hm56
 refine (ref11_put.ok hS64 hx67).mono ?_
 rintro _ w69 ⟨rfl,hS71⟩; clear hS64
 refine ⟨⟨_,hS71.pick2⟩,?_⟩
 intro a70 hF72; clear hF62
 refine any_many 1 [(31,some (nI x65))] [6] #[true,true,true,true,true,true,true,true,true,true,true,true,true,true,true,true,true,true,true,true,true,true,true,true,true,true,true,true,true,true,true,true] (by rfl) hF72 (by kernel_rfl) (by kernel_rfl) (by exact ⟨fun wS hw=>by kernel_rfl,trivial⟩) (fun _ _ _ _ _ h=>h) ⟨_,hS71.pick2⟩ (l':=[(6,nI x65)]) (by kernel_rfl) ?_
 intro a74 hF73; clear hF72
 refine any_done (by kernel_rfl) ?_
 have hS75:=hS71.pick1.drop.pick1.drop
 clear hS71
 refine thenN ?_
 refine wp_ret ?_
 simp only [Option.some.injEq,Prod.mk.injEq] at hm68
 obtain ⟨rfl,rfl⟩:=hm68
 refine ev_ret hF73 [6] (nI x65) rfl rfl rfl ?_
 exact ⟨rfl,hS75⟩
def ref11_PutSudog.m (k:Nat) (s0:HSt) (i1:Int) (i2:Su):Option (Int×HSt):=bind1 (ref11_ptr.m k i2.gor) fun x10=>bind1 (ref11_ptr.m k i2.chan) fun x17=>bind1 (ref11_ptr.m k i2.next) fun x24=>bind1 (ref11_ptr.m k i2.more) fun x39=>bind2 (ref11_put.m k s0 i1 3 [x10,x17,i2.value,x24,wrap64 (i2.to * 2),wrap64 (i2.reg * 2),x39]) fun x50 s51=>some (x50,s51)
theorem ref11_PutSudog.ok {w0 w:World} {F0:List Nat} {ps:List Piece} {k:Nat} {b0 ab0 sb0 g0 cb0:Nat} {s0:HSt} {i1:Int} {i2:Su} {r0:Int} {t0:HSt} (hS:St w0 F0 (RHeapP b0 ab0 sb0 g0 cb0 s0::ps) w) (hm:ref11_PutSudog.m k s0 i1 i2=some (r0,t0)) :
    Calls Tryz.prog 77 #[nP b0 0,nI i1,.agg #[nI (i2.gor),nI (i2.chan),nI (i2.value),nI (i2.next),nI (i2.to),nI (i2.reg),nI (i2.more)]] w fun e w'=>e=.returned (.int .i64 r0)∧St w0 F0 (RHeapP b0 ab0 sb0 g0 cb0 t0::ps) w':=by
 refine ev_enterL 31 [nP b0 0,nI i1,.agg #[nI (i2.gor),nI (i2.chan),nI (i2.value),nI (i2.next),nI (i2.to),nI (i2.reg),nI (i2.more)]] Tryz.func77 rfl rfl (by simp) ?_
 intro a hF
 have hF0:Fr 31 a [(0,nP b0 0),(1,nI i1),(2,.agg #[nI (i2.gor),nI (i2.chan),nI (i2.value),nI (i2.next),nI (i2.to),nI (i2.reg),nI (i2.more)])]:=hF; clear hF
 unfold ref11_PutSudog.m at hm
 refine wp_seq (wp_region_lit ?_)
 refine ev_runs 1 hF0 (l':=[(5,nB w),(0,nP b0 0),(1,nI i1),(2,.agg #[nI (i2.gor),nI (i2.chan),nI (i2.value),nI (i2.next),nI (i2.to),nI (i2.reg),nI (i2.more)])]) (w':=w.alloc (.cells #[nI (i2.gor),nI (i2.chan),nI (i2.value),nI (i2.next),nI (i2.to),nI (i2.reg),nI (i2.more)] 54)) (by kernel_rfl) ?_
 intro a2 hF1; clear hF0
 have hS4:St w0 F0 (BlkP (w.heap.size) 54 #[nI (i2.gor),nI (i2.chan),nI (i2.value),nI (i2.next),nI (i2.to),nI (i2.reg),nI (i2.more)]::RHeapP b0 ab0 sb0 g0 cb0 s0::ps) (w.alloc (.cells #[nI (i2.gor),nI (i2.chan),nI (i2.value),nI (i2.next),nI (i2.to),nI (i2.reg),nI (i2.more)] 54)):=St.new hS #[nI (i2.gor),nI (i2.chan),nI (i2.value),nI (i2.next),nI (i2.to),nI (i2.reg),nI (i2.more)] 54
 refine ev_runK 1 hF1 [0,1,5] (l':=[(5,nB w),(0,nP b0 0),(1,nI i1)]) (w':=w.alloc (.cells #[nI (i2.gor),nI (i2.chan),nI (i2.value),nI (i2.next),nI (i2.to),nI (i2.reg),nI (i2.more)] 54)) (by kernel_rfl) ?_
 intro a6 hF5; clear hF1
 refine wpList_nil (thenN (wp_seq ?_))
 have hS7:=hS4.drew; clear hS4
 refine any_start (fun wS=>∃ qs,St w0 F0 (BlkP (w.heap.size) 54 #[nI (i2.gor),nI (i2.chan),nI (i2.value),nI (i2.next),nI (i2.to),nI (i2.reg),nI (i2.more)]::qs) wS) 25 #[false,false,false,false,false,false,false,false,false,false,false,false,false,false,false,false,false,false,false,false,false,false,false,false,false] (by kernel_rfl) (by kernel_rfl) (by kernel_rfl) ?_
 refine any_many 16 [(0,some (nP b0 0)),(1,some (nI i1)),(2,some (nB w)),(3,some (nI (i2.gor))),(5,some (nP (w.heap.size) 1)),(6,some (nI (i2.chan))),(8,some (nP (w.heap.size) 2)),(9,some (nI (i2.value))),(10,some (nP (w.heap.size) 3)),(11,some (nI (i2.next))),(13,some (nP (w.heap.size) 4)),(14,some (nI (i2.to))),(16,some (nP (w.heap.size) 5)),(17,some (nI (i2.reg))),(19,some (nP (w.heap.size) 6)),(20,some (nI (i2.more)))] [6,7,8,10,11,13,14,16,18,19,21,22,24,25,27,28,29,30] #[true,true,true,true,false,true,true,false,true,true,true,true,false,true,true,false,true,true,false,true,true,false,false,false,false] (by rfl) hF5 (by kernel_rfl) (by kernel_rfl) (by exact ⟨fun wS hw=>by kernel_rfl,fun wS hw=>by kernel_rfl,fun wS hw=>by kernel_rfl,fun wS hw=>hw.elim fun qs hw=>run_loadV rfl rfl (run_loadS rfl rfl (hw.cell 0 rfl 0 rfl)),fun wS hw=>by kernel_rfl,fun wS hw=>hw.elim fun qs hw=>run_loadV rfl rfl (run_loadS rfl rfl (hw.cell 0 rfl 1 rfl)),fun wS hw=>by kernel_rfl,fun wS hw=>hw.elim fun qs hw=>run_loadV rfl rfl (run_loadS rfl rfl (hw.cell 0 rfl 2 rfl)),fun wS hw=>by kernel_rfl,fun wS hw=>hw.elim fun qs hw=>run_loadV rfl rfl (run_loadS rfl rfl (hw.cell 0 rfl 3 rfl)),fun wS hw=>by kernel_rfl,fun wS hw=>hw.elim fun qs hw=>run_loadV rfl rfl (run_loadS rfl rfl (hw.cell 0 rfl 4 rfl)),fun wS hw=>by kernel_rfl,fun wS hw=>hw.elim fun qs hw=>run_loadV rfl rfl (run_loadS rfl rfl (hw.cell 0 rfl 5 rfl)),fun wS hw=>by kernel_rfl,fun wS hw=>hw.elim fun qs hw=>run_loadV rfl rfl (run_loadS rfl rfl (hw.cell 0 rfl 6 rfl)),trivial⟩) (fun _ _ _ _ _ h=>h) ⟨_,hS7⟩ (l':=[(27,nI (i2.more)),(24,nI (i2.reg)),(21,nI (i2.to)),(18,nI (i2.next)),(16,nI (i2.value)),(13,nI (i2.chan)),(10,nI (i2.gor)),(8,nI i1),(7,nP b0 0)]) (by kernel_rfl) ?_
 intro a9 hF8; clear hF5
 refine any_call 4 #[true,true,true,true,true,true,true,false,true,true,true,true,false,true,true,false,true,true,false,true,true,false,false,false,false] 113 #[nI (i2.gor)] hF8 rfl (by kernel_rfl) rfl rfl (by kernel_rfl) rfl (by kernel_rfl) (fun w=>by kernel_rfl) (by kernel_rfl) ?_
 obtain ⟨x10,hx11,hm12⟩:=bind1E hm; clear hm
 refine (ref11_ptr.ok hS7 hx11).mono ?_
 rintro _ w13 ⟨rfl,hS15⟩; clear hS7
 refine ⟨⟨_,hS15⟩,?_⟩
 intro a14 hF16; clear hF8
 refine any_call 7 #[true,true,true,true,true,true,true,true,true,true,true,true,false,true,true,false,true,true,false,true,true,false,false,false,false] 113 #[nI (i2.chan)] hF16 rfl (by kernel_rfl) rfl rfl (by kernel_rfl) rfl (by kernel_rfl) (fun w=>by kernel_rfl) (by kernel_rfl) ?_
 obtain ⟨x17,hx18,hm19⟩:=bind1E hm12; clear hm12
 refine (ref11_ptr.ok hS15 hx18).mono ?_
 rintro _ w20 ⟨rfl,hS22⟩; clear hS15
 refine ⟨⟨_,hS22⟩,?_⟩
 intro a21 hF23; clear hF16
 refine any_call 12 #[true,true,true,true,true,true,true,true,true,true,true,true,true,true,true,false,true,true,false,true,true,false,false,false,false] 113 #[nI (i2.next)] hF23 rfl (by kernel_rfl) rfl rfl (by kernel_rfl) rfl (by kernel_rfl) (fun w=>by kernel_rfl) (by kernel_rfl) ?_
 obtain ⟨x24,hx25,hm26⟩:=bind1E hm19; clear hm19
 refine (ref11_ptr.ok hS22 hx25).mono ?_
 rintro _ w27 ⟨rfl,hS29⟩; clear hS22
 refine ⟨⟨_,hS29⟩,?_⟩
 intro a28 hF30; clear hF23
 refine any_call 15 #[true,true,true,true,true,true,true,true,true,true,true,true,true,true,true,true,true,true,false,true,true,false,false,false,false] 112 #[nI (i2.to)] hF30 rfl (by kernel_rfl) rfl rfl (by kernel_rfl) rfl (by kernel_rfl) (fun w=>by kernel_rfl) (by kernel_rfl) ?_
 refine (p_rInt hS29).mono ?_
 rintro _ w31 ⟨rfl,hS33⟩; clear hS29
 refine ⟨⟨_,hS33⟩,?_⟩
 intro a32 hF34; clear hF30
 refine any_call 18 #[true,true,true,true,true,true,true,true,true,true,true,true,true,true,true,true,true,true,true,true,true,false,false,false,false] 112 #[nI (i2.reg)] hF34 rfl (by kernel_rfl) rfl rfl (by kernel_rfl) rfl (by kernel_rfl) (fun w=>by kernel_rfl) (by kernel_rfl) ?_
 refine (p_rInt hS33).mono ?_
 rintro _ w35 ⟨rfl,hS37⟩; clear hS33
 refine ⟨⟨_,hS37⟩,?_⟩
 intro a36 hF38; clear hF34
 refine any_call 21 #[true,true,true,true,true,true,true,true,true,true,true,true,true,true,true,true,true,true,true,true,true,true,false,false,false] 113 #[nI (i2.more)] hF38 rfl (by kernel_rfl) rfl rfl (by kernel_rfl) rfl (by kernel_rfl) (fun w=>by kernel_rfl) (by kernel_rfl) ?_
 obtain ⟨x39,hx40,hm41⟩:=bind1E hm26; clear hm26
 refine (ref11_ptr.ok hS37 hx40).mono ?_
 rintro _ w42 ⟨rfl,hS44⟩; clear hS37
 refine ⟨⟨_,hS44⟩,?_⟩
 intro a43 hF45; clear hF38
 refine any_one 22 (by kernel_rfl) ?_
 have hS46:St w0 F0 (RowP (.slice (some ⟨w42.heap.size,0,none⟩) 7 7) [x10,x17,i2.value,x24,wrap64 (i2.to * 2),wrap64 (i2.reg * 2),x39]::BlkP (w.heap.size) 54 #[nI (i2.gor),nI (i2.chan),nI (i2.value),nI (i2.next),nI (i2.to),nI (i2.reg),nI (i2.more)]::RHeapP b0 ab0 sb0 g0 cb0 s0::ps) (w42.alloc (.cells #[nI x10,nI x17,nI (i2.value),nI x24,nI (wrap64 (i2.to * 2)),nI (wrap64 (i2.reg * 2)),nI x39] 3)):=St.lit hS44 [x10,x17,i2.value,x24,wrap64 (i2.to * 2),wrap64 (i2.reg * 2),x39] (by unfold maxLen; simp)
 clear hS44
 refine op_step 22 #[true,true,true,true,true,true,true,true,true,true,true,true,true,true,true,true,true,true,true,true,true,true,true,false,false] (.slice (some ⟨w42.heap.size,0,none⟩) 7 7) (w42.alloc (.cells #[nI x10,nI x17,nI (i2.value),nI x24,nI (wrap64 (i2.to * 2)),nI (wrap64 (i2.reg * 2)),nI x39] 3)) hF45 rfl (by kernel_rfl) rfl (by kernel_rfl) (by kernel_rfl) (l':=[(29,.slice (some ⟨w42.heap.size,0,none⟩) 7 7),(28,nI x39),(25,nI (wrap64 (i2.reg * 2))),(22,nI (wrap64 (i2.to * 2))),(19,nI x24),(14,nI x17),(11,nI x10),(27,nI (i2.more)),(24,nI (i2.reg)),(21,nI (i2.to)),(18,nI (i2.next)),(16,nI (i2.value)),(13,nI (i2.chan)),(10,nI (i2.gor)),(8,nI i1),(7,nP b0 0)]) (by kernel_rfl) ⟨_,hS46.pick1⟩ (by kernel_rfl) ?_
 intro a48 hF47; clear hF45
 have hS49:=hS46.pick2
 clear hS46
 refine any_call 23 #[true,true,true,true,true,true,true,true,true,true,true,true,true,true,true,true,true,true,true,true,true,true,true,true,false] 111 #[nP b0 0,nI i1,nI 3,.slice (some ⟨w42.heap.size,0,none⟩) 7 7] hF47 rfl (by kernel_rfl) rfl rfl (by kernel_rfl) rfl (by kernel_rfl) (fun w=>by kernel_rfl) (by kernel_rfl) ?_
 obtain ⟨x50,s51,hx52,hm53⟩:=bind2E hm41; clear hm41
 refine (ref11_put.ok hS49 hx52).mono ?_
 rintro _ w54 ⟨rfl,hS56⟩; clear hS49
 refine ⟨⟨_,hS56.pick2⟩,?_⟩
 intro a55 hF57; clear hF47
 refine any_many 1 [(24,some (nI x50))] [6] #[true,true,true,true,true,true,true,true,true,true,true,true,true,true,true,true,true,true,true,true,true,true,true,true,true] (by rfl) hF57 (by kernel_rfl) (by kernel_rfl) (by exact ⟨fun wS hw=>by kernel_rfl,trivial⟩) (fun _ _ _ _ _ h=>h) ⟨_,hS56.pick2⟩ (l':=[(6,nI x50)]) (by kernel_rfl) ?_
 intro a59 hF58; clear hF57
 refine any_done (by kernel_rfl) ?_
 have hS60:=hS56.pick1.drop.pick1.drop
 clear hS56
 refine thenN ?_
 refine wp_ret ?_
 simp only [Option.some.injEq,Prod.mk.injEq] at hm53
 obtain ⟨rfl,rfl⟩:=hm53
 refine ev_ret hF58 [6] (nI x50) rfl rfl rfl ?_
 exact ⟨rfl,hS60⟩
def ref11_PutGor.l1b (s0:HSt) (i1:Int) (i2:Gr) (k:Nat) (rec34:List Int→Int→Option (Int×HSt)) (L29:List Int) (x31:Int):Option (Int×HSt):=(if (decide (x31<6)) then (if (inR x31 6) then bind1 (pushM L29 (atI [i2.a,i2.b,i2.c,i2.d,i2.e,i2.f] x31)) fun L58=>rec34 L58 (IntKind.i64.wrap (x31+1)) else none) else bind1 (ref11_ptr.m k i2.sudogs) fun x76=>bind1 (pushM L29 x76) fun L85=>bind2 (ref11_put.m k s0 i1 4 L85) fun x95 s96=>some (x95,s96))
def ref11_PutGor.l1 (s0:HSt) (i1:Int) (i2:Gr) (k:Nat):Nat→List Int→Int→Option (Int×HSt)
  | 0=>fun _ _=>none
  | kI+1=>ref11_PutGor.l1b s0 i1 i2 k (ref11_PutGor.l1 s0 i1 i2 k kI)
def ref11_PutGor.m (k:Nat) (s0:HSt) (i1:Int) (i2:Gr):Option (Int×HSt):=ref11_PutGor.l1 s0 i1 i2 k k [wrap64 (i2.id * 2),wrap64 (i2.status * 2),wrap64 (i2.pc * 2)] 0
theorem ref11_PutGor.ok {w0 w:World} {F0:List Nat} {ps:List Piece} {k:Nat} {b0 ab0 sb0 g0 cb0:Nat} {s0:HSt} {i1:Int} {i2:Gr} {r0:Int} {t0:HSt} (hS:St w0 F0 (RHeapP b0 ab0 sb0 g0 cb0 s0::ps) w) (hm:ref11_PutGor.m k s0 i1 i2=some (r0,t0)) :
    Calls Tryz.prog 64 #[nP b0 0,nI i1,.agg #[nI (i2.id),nI (i2.status),nI (i2.pc),nI (i2.a),nI (i2.b),nI (i2.c),nI (i2.d),nI (i2.e),nI (i2.f),nI (i2.sudogs)]] w fun e w'=>e=.returned (.int .i64 r0)∧St w0 F0 (RHeapP b0 ab0 sb0 g0 cb0 t0::ps) w':=by
 refine ev_enterL 39 [nP b0 0,nI i1,.agg #[nI (i2.id),nI (i2.status),nI (i2.pc),nI (i2.a),nI (i2.b),nI (i2.c),nI (i2.d),nI (i2.e),nI (i2.f),nI (i2.sudogs)]] Tryz.func64 rfl rfl (by simp) ?_
 intro a hF
 have hF0:Fr 39 a [(0,nP b0 0),(1,nI i1),(2,.agg #[nI (i2.id),nI (i2.status),nI (i2.pc),nI (i2.a),nI (i2.b),nI (i2.c),nI (i2.d),nI (i2.e),nI (i2.f),nI (i2.sudogs)])]:=hF; clear hF
 unfold ref11_PutGor.m at hm
 refine wp_seq (wp_region_lit ?_)
 refine ev_runs 1 hF0 (l':=[(5,nB w),(0,nP b0 0),(1,nI i1),(2,.agg #[nI (i2.id),nI (i2.status),nI (i2.pc),nI (i2.a),nI (i2.b),nI (i2.c),nI (i2.d),nI (i2.e),nI (i2.f),nI (i2.sudogs)])]) (w':=w.alloc (.cells #[nI (i2.id),nI (i2.status),nI (i2.pc),nI (i2.a),nI (i2.b),nI (i2.c),nI (i2.d),nI (i2.e),nI (i2.f),nI (i2.sudogs)] 70)) (by kernel_rfl) ?_
 intro a2 hF1; clear hF0
 have hS4:St w0 F0 (BlkP (w.heap.size) 70 #[nI (i2.id),nI (i2.status),nI (i2.pc),nI (i2.a),nI (i2.b),nI (i2.c),nI (i2.d),nI (i2.e),nI (i2.f),nI (i2.sudogs)]::RHeapP b0 ab0 sb0 g0 cb0 s0::ps) (w.alloc (.cells #[nI (i2.id),nI (i2.status),nI (i2.pc),nI (i2.a),nI (i2.b),nI (i2.c),nI (i2.d),nI (i2.e),nI (i2.f),nI (i2.sudogs)] 70)):=St.new hS #[nI (i2.id),nI (i2.status),nI (i2.pc),nI (i2.a),nI (i2.b),nI (i2.c),nI (i2.d),nI (i2.e),nI (i2.f),nI (i2.sudogs)] 70
 refine ev_runK 1 hF1 [0,1,5] (l':=[(5,nB w),(0,nP b0 0),(1,nI i1)]) (w':=w.alloc (.cells #[nI (i2.id),nI (i2.status),nI (i2.pc),nI (i2.a),nI (i2.b),nI (i2.c),nI (i2.d),nI (i2.e),nI (i2.f),nI (i2.sudogs)] 70)) (by kernel_rfl) ?_
 intro a6 hF5; clear hF1
 refine wpList_nil (thenN (wp_seq ?_))
 have hS7:=hS4.drew; clear hS4
 refine any_start (fun wS=>∃ qs,St w0 F0 (BlkP (w.heap.size) 70 #[nI (i2.id),nI (i2.status),nI (i2.pc),nI (i2.a),nI (i2.b),nI (i2.c),nI (i2.d),nI (i2.e),nI (i2.f),nI (i2.sudogs)]::qs) wS) 11 #[false,false,false,false,false,false,false,false,false,false,false] (by kernel_rfl) (by kernel_rfl) (by kernel_rfl) ?_
 refine any_many 6 [(0,some (nB w)),(1,some (nI (i2.id))),(3,some (nP (w.heap.size) 1)),(4,some (nI (i2.status))),(6,some (nP (w.heap.size) 2)),(7,some (nI (i2.pc)))] [0,1,5,7,10,11,13,14,16,17,18] #[true,true,false,true,true,false,true,true,false,false,false] (by rfl) hF5 (by kernel_rfl) (by kernel_rfl) (by exact ⟨fun wS hw=>by kernel_rfl,fun wS hw=>hw.elim fun qs hw=>run_loadV rfl rfl (run_loadS rfl rfl (hw.cell 0 rfl 0 rfl)),fun wS hw=>by kernel_rfl,fun wS hw=>hw.elim fun qs hw=>run_loadV rfl rfl (run_loadS rfl rfl (hw.cell 0 rfl 1 rfl)),fun wS hw=>by kernel_rfl,fun wS hw=>hw.elim fun qs hw=>run_loadV rfl rfl (run_loadS rfl rfl (hw.cell 0 rfl 2 rfl)),trivial⟩) (fun _ _ _ _ _ h=>h) ⟨_,hS7⟩ (l':=[(16,nI (i2.pc)),(13,nI (i2.status)),(10,nI (i2.id)),(5,nB w),(0,nP b0 0),(1,nI i1)]) (by kernel_rfl) ?_
 intro a9 hF8; clear hF5
 refine any_call 2 #[true,true,true,true,true,false,true,true,false,false,false] 112 #[nI (i2.id)] hF8 rfl (by kernel_rfl) rfl rfl (by kernel_rfl) rfl (by kernel_rfl) (fun w=>by kernel_rfl) (by kernel_rfl) ?_
 refine (p_rInt hS7).mono ?_
 rintro _ w10 ⟨rfl,hS12⟩; clear hS7
 refine ⟨⟨_,hS12⟩,?_⟩
 intro a11 hF13; clear hF8
 refine any_call 5 #[true,true,true,true,true,true,true,true,false,false,false] 112 #[nI (i2.status)] hF13 rfl (by kernel_rfl) rfl rfl (by kernel_rfl) rfl (by kernel_rfl) (fun w=>by kernel_rfl) (by kernel_rfl) ?_
 refine (p_rInt hS12).mono ?_
 rintro _ w14 ⟨rfl,hS16⟩; clear hS12
 refine ⟨⟨_,hS16⟩,?_⟩
 intro a15 hF17; clear hF13
 refine any_call 8 #[true,true,true,true,true,true,true,true,true,false,false] 112 #[nI (i2.pc)] hF17 rfl (by kernel_rfl) rfl rfl (by kernel_rfl) rfl (by kernel_rfl) (fun w=>by kernel_rfl) (by kernel_rfl) ?_
 refine (p_rInt hS16).mono ?_
 rintro _ w18 ⟨rfl,hS20⟩; clear hS16
 refine ⟨⟨_,hS20⟩,?_⟩
 intro a19 hF21; clear hF17
 refine any_one 9 (by kernel_rfl) ?_
 have hS22:St w0 F0 (RowP (.slice (some ⟨w18.heap.size,0,none⟩) 3 3) [wrap64 (i2.id * 2),wrap64 (i2.status * 2),wrap64 (i2.pc * 2)]::BlkP (w.heap.size) 70 #[nI (i2.id),nI (i2.status),nI (i2.pc),nI (i2.a),nI (i2.b),nI (i2.c),nI (i2.d),nI (i2.e),nI (i2.f),nI (i2.sudogs)]::RHeapP b0 ab0 sb0 g0 cb0 s0::ps) (w18.alloc (.cells #[nI (wrap64 (i2.id * 2)),nI (wrap64 (i2.status * 2)),nI (wrap64 (i2.pc * 2))] 3)):=St.lit hS20 [wrap64 (i2.id * 2),wrap64 (i2.status * 2),wrap64 (i2.pc * 2)] (by unfold maxLen; simp)
 clear hS20
 refine op_step 9 #[true,true,true,true,true,true,true,true,true,true,false] (.slice (some ⟨w18.heap.size,0,none⟩) 3 3) (w18.alloc (.cells #[nI (wrap64 (i2.id * 2)),nI (wrap64 (i2.status * 2)),nI (wrap64 (i2.pc * 2))] 3)) hF21 rfl (by kernel_rfl) rfl (by kernel_rfl) (by kernel_rfl) (l':=[(18,.slice (some ⟨w18.heap.size,0,none⟩) 3 3),(17,nI (wrap64 (i2.pc * 2))),(14,nI (wrap64 (i2.status * 2))),(11,nI (wrap64 (i2.id * 2))),(16,nI (i2.pc)),(13,nI (i2.status)),(10,nI (i2.id)),(5,nB w),(0,nP b0 0),(1,nI i1)]) (by kernel_rfl) ⟨_,hS22.pick1⟩ (by kernel_rfl) ?_
 intro a24 hF23; clear hF21
 refine any_many 1 [(10,some (.slice (some ⟨w18.heap.size,0,none⟩) 3 3))] [0,1,5,7] #[true,true,true,true,true,true,true,true,true,true,true] (by rfl) hF23 (by kernel_rfl) (by kernel_rfl) (by exact ⟨fun wS hw=>by kernel_rfl,trivial⟩) (fun _ _ _ _ _ h=>h) ⟨_,hS22.pick1⟩ (l':=[(7,.slice (some ⟨w18.heap.size,0,none⟩) 3 3),(5,nB w),(0,nP b0 0),(1,nI i1)]) (by kernel_rfl) ?_
 intro a26 hF25; clear hF23
 refine any_done (by kernel_rfl) ?_
 refine thenN (wp_seq (wp_seq (wp_region_lit ?_)))
 refine ev_runs 1 hF25 (l':=[(8,nI 0),(7,.slice (some ⟨w18.heap.size,0,none⟩) 3 3),(5,nB w),(0,nP b0 0),(1,nI i1)]) (w':=w18.alloc (.cells #[nI (wrap64 (i2.id * 2)),nI (wrap64 (i2.status * 2)),nI (wrap64 (i2.pc * 2))] 3)) (by kernel_rfl) ?_
 intro a28 hF27; clear hF25
 refine wpList_nil (thenN ?_)
 refine wp_block ?_
 refine wp_loop_ghost (fun kI aI wI=>∃ (v30:Value) (L29:List Int) (x31:Int),Fr 39 aI [(8,nI x31),(7,v30),(5,nB w),(0,nP b0 0),(1,nI i1)]∧St w0 F0 (RowP (v30) L29::BlkP (w.heap.size) 70 #[nI (i2.id),nI (i2.status),nI (i2.pc),nI (i2.a),nI (i2.b),nI (i2.c),nI (i2.d),nI (i2.e),nI (i2.f),nI (i2.sudogs)]::RHeapP b0 ab0 sb0 g0 cb0 s0::ps) wI∧ref11_PutGor.l1 s0 i1 i2 k kI L29 x31=some (r0,t0)) k ⟨.slice (some ⟨w18.heap.size,0,none⟩) 3 3,[wrap64 (i2.id * 2),wrap64 (i2.status * 2),wrap64 (i2.pc * 2)],0,hF27,hS22,hm⟩ ?_
 rintro k32 a33 w34 ⟨v30,L29,x31,hF35,hS36,hm37⟩
 clear hF27 hS22 hm
 rcases k32 with _ | k32
 · cases hm37
 have hm38:ref11_PutGor.l1b s0 i1 i2 k (ref11_PutGor.l1 s0 i1 i2 k k32) L29 x31=some (r0,t0):=hm37
 clear hm37
 unfold ref11_PutGor.l1b at hm38
 obtain ⟨hl42,p39,c40,rfl,hp41⟩:=St.shape hS36 0 rfl
 refine wp_seq (wp_seq (wp_region_lit ?_))
 refine ev_runK 2 hF35 [0,1,5,7,8,20] (l':=[(20,.bool (decide (x31<6))),(8,nI x31),(7,.slice p39 L29.length c40),(5,nB w),(0,nP b0 0),(1,nI i1)]) (w':=w34) (by kernel_rfl) ?_
 intro a44 hF43; clear hF35
 refine wpList_nil (thenN ?_)
 cases hc45:(decide (x31<6))
 case true =>
  rw [hc45] at hF43
  have hm46:=ifYes hc45 hm38; clear hm38
  refine ev_condT hF43 rfl rfl ?_
  refine wp_skip ?_
  have hF47:=hF43.keep [0,1,5,7,8]
  clear hF43
  refine thenN (wp_seq ?_)
  refine wp_block ?_
  refine wp_region_lit ?_
  refine ev_runs 3 hF47 (l':=[(25,nP (w.heap.size) 3),(24,nI x31),(23,.slice p39 L29.length c40),(8,nI x31),(7,.slice p39 L29.length c40),(5,nB w),(0,nP b0 0),(1,nI i1)]) (w':=w34) (by kernel_rfl) ?_
  intro a49 hF48; clear hF47
  obtain ⟨hc50,hm51⟩:=ifTE hm46; clear hm46
  refine ev_one (nP (w.heap.size) ((3+x31.toNat))) w34 hF48 (by kernel_rfl) rfl (by kernel_rfl) (run_idxA (sz:=1) (q:=x31) rfl rfl rfl rfl rfl (inR_spec hc50).1 (inR_spec hc50).2 (by rw [Nat.mul_one]) _) (l':=[(26,nP (w.heap.size) ((3+x31.toNat))),(25,nP (w.heap.size) 3),(24,nI x31),(23,.slice p39 L29.length c40),(8,nI x31),(7,.slice p39 L29.length c40),(5,nB w),(0,nP b0 0),(1,nI i1)]) (by kernel_rfl) ?_
  intro a53 hF52; clear hF48
  refine ev_one (nI (atI [i2.a,i2.b,i2.c,i2.d,i2.e,i2.f] x31)) w34 hF52 (by kernel_rfl) rfl (by kernel_rfl) (run_load1 rfl rfl rfl (St.arrAt hS36 1 rfl 3 [i2.a,i2.b,i2.c,i2.d,i2.e,i2.f] rfl hc50)) (l':=[(27,nI (atI [i2.a,i2.b,i2.c,i2.d,i2.e,i2.f] x31)),(26,nP (w.heap.size) ((3+x31.toNat))),(25,nP (w.heap.size) 3),(24,nI x31),(23,.slice p39 L29.length c40),(8,nI x31),(7,.slice p39 L29.length c40),(5,nB w),(0,nP b0 0),(1,nI i1)]) (by kernel_rfl) ?_
  intro a55 hF54; clear hF52
  refine ev_runs 1 hF54 (l':=[(28,.slice (some ⟨w34.heap.size,0,none⟩) 1 1),(27,nI (atI [i2.a,i2.b,i2.c,i2.d,i2.e,i2.f] x31)),(26,nP (w.heap.size) ((3+x31.toNat))),(25,nP (w.heap.size) 3),(24,nI x31),(23,.slice p39 L29.length c40),(8,nI x31),(7,.slice p39 L29.length c40),(5,nB w),(0,nP b0 0),(1,nI i1)]) (w':=w34.alloc (.cells #[nI (atI [i2.a,i2.b,i2.c,i2.d,i2.e,i2.f] x31)] 3)) (by kernel_rfl) ?_
  intro a57 hF56; clear hF54
  obtain ⟨L58,hx59,hm60⟩:=bind1E hm51; clear hm51
  refine ev_push 29 (.tmp 23) (.tmp 28) hF56 rfl rfl rfl rfl rfl rfl rfl rfl hS36 hx59 ?_
  intro g61 c62 w63 a64 hS65 hF66; clear hF56 hS36
  refine ev_runK 1 hF66 [0,1,5,7,8] (l':=[(7,nS g61 L58 c62),(8,nI x31),(5,nB w),(0,nP b0 0),(1,nI i1)]) (w':=w63) (by kernel_rfl) ?_
  intro a68 hF67; clear hF66
  refine wpList_nil ?_
  refine blockN ?_
  refine thenN (wp_region_lit ?_)
  refine ev_runK 3 hF67 [0,1,5,7,8] (l':=[(8,nI (IntKind.i64.wrap (x31+1))),(7,nS g61 L58 c62),(5,nB w),(0,nP b0 0),(1,nI i1)]) (w':=w63) (by kernel_rfl) ?_
  intro a70 hF69; clear hF67
  refine wpList_nil ?_
  exact thenN ⟨k32,Nat.lt_succ_self _,nS g61 L58 c62,L58,IntKind.i64.wrap (x31+1),hF69,hS65,hm60⟩
 rw [hc45] at hF43
 have hm71:=ifNot hc45 hm38; clear hm38
 refine ev_condF hF43 rfl rfl ?_
 refine wp_exit ?_
 refine thenE ?_
 refine thenE ?_
 refine blockE ?_
 refine thenN (wp_seq (wp_region_lit ?_))
 refine ev_runs 4 hF43 (l':=[(33,nP (w.heap.size) 9),(32,.slice p39 L29.length c40),(31,nI i1),(30,nP b0 0),(20,.bool false),(8,nI x31),(7,.slice p39 L29.length c40),(5,nB w),(0,nP b0 0),(1,nI i1)]) (w':=w34) (by kernel_rfl) ?_
 intro a73 hF72; clear hF43
 refine ev_one (nI (i2.sudogs)) w34 hF72 (by kernel_rfl) rfl (by kernel_rfl) (run_loadV rfl rfl (run_loadS rfl rfl (hS36.cell 1 rfl 9 rfl))) (l':=[(34,nI (i2.sudogs)),(33,nP (w.heap.size) 9),(32,.slice p39 L29.length c40),(31,nI i1),(30,nP b0 0),(20,.bool false),(8,nI x31),(7,.slice p39 L29.length c40),(5,nB w),(0,nP b0 0),(1,nI i1)]) (by kernel_rfl) ?_
 intro a75 hF74; clear hF72
 refine ev_call 113 #[nI (i2.sudogs)] hF74 rfl rfl (by kernel_rfl) rfl (by kernel_rfl) (fun w=>by kernel_rfl) ?_
 obtain ⟨x76,hx77,hm78⟩:=bind1E hm71; clear hm71
 refine (ref11_ptr.ok hS36 hx77).mono ?_
 rintro _ w79 ⟨rfl,hS81⟩ a80 hF82; clear hF74 hS36
 refine ev_runs 1 hF82 (l':=[(36,.slice (some ⟨w79.heap.size,0,none⟩) 1 1),(35,nI x76),(34,nI (i2.sudogs)),(33,nP (w.heap.size) 9),(32,.slice p39 L29.length c40),(31,nI i1),(30,nP b0 0),(20,.bool false),(8,nI x31),(7,.slice p39 L29.length c40),(5,nB w),(0,nP b0 0),(1,nI i1)]) (w':=w79.alloc (.cells #[nI x76] 3)) (by kernel_rfl) ?_
 intro a84 hF83; clear hF82
 obtain ⟨L85,hx86,hm87⟩:=bind1E hm78; clear hm78
 refine ev_push 37 (.tmp 32) (.tmp 36) hF83 rfl rfl rfl rfl rfl rfl rfl rfl hS81 hx86 ?_
 intro g88 c89 w90 a91 hS92 hF93; clear hF83 hS81
 have hS94:=hS92.pick2
 clear hS92
 refine ev_call 111 #[nP b0 0,nI i1,nI 4,nS g88 L85 c89] hF93 rfl rfl (by kernel_rfl) rfl (by kernel_rfl) (fun w=>by kernel_rfl) ?_
 obtain ⟨x95,s96,hx97,hm98⟩:=bind2E hm87; clear hm87
 refine (ref11_put.ok hS94 hx97).mono ?_
 rintro _ w99 ⟨rfl,hS101⟩ a100 hF102; clear hF93 hS94
 refine ev_runK 1 hF102 [6] (l':=[(6,nI x95)]) (w':=w99) (by kernel_rfl) ?_
 intro a104 hF103; clear hF102
 refine wpList_nil ?_
 have hS105:=hS101.pick1.drop.pick1.drop
 clear hS101
 refine thenN ?_
 refine wp_ret ?_
 simp only [Option.some.injEq,Prod.mk.injEq] at hm98
 obtain ⟨rfl,rfl⟩:=hm98
 refine ev_ret hF103 [6] (nI x95) rfl rfl rfl ?_
 exact ⟨rfl,hS105⟩
end Go.Proofs.YtaojmbkmicjecaaGreat
namespace Go.Proofs.YtaojmbkmicjecaaGreat
open Go.RowKit
set_option maxRecDepth 100000
set_option maxHeartbeats 40000000
set_option linter.unusedVariables false
def ref11_Sudog.m (k:Nat) (s0:HSt) (i1:Int):Option (Su×Int×HSt):=bind3 (ref11_words.m k s0 i1 3) fun L10 x11 s12=>(if (x11 != 0) then some ((⟨0,0,0,0,0,0,0⟩:Su),x11,s12) else (if (inR (0:Int) L10.length) then (if (inR (1:Int) L10.length) then (if (inR (2:Int) L10.length) then (if (inR (3:Int) L10.length) then (if (inR (4:Int) L10.length) then (if (inR (5:Int) L10.length) then (if (inR (6:Int) L10.length) then bind1 (ref11_place.m k (atI L10 (0:Int))) fun x67=>bind1 (ref11_place.m k (atI L10 (1:Int))) fun x74=>bind1 (ref11_place.m k (atI L10 (3:Int))) fun x81=>bind1 (ref11_number.m k (atI L10 (4:Int))) fun x88=>bind1 (ref11_number.m k (atI L10 (5:Int))) fun x95=>bind1 (ref11_place.m k (atI L10 (6:Int))) fun x102=>some ((⟨x67,x74,atI L10 (2:Int),x81,x88,x95,x102⟩:Su),x11,s12) else none) else none) else none) else none) else none) else none) else none))
theorem ref11_Sudog.ok {w0 w:World} {F0:List Nat} {ps:List Piece} {k:Nat} {b0 ab0 sb0 g0 cb0:Nat} {s0:HSt} {i1:Int} {r0:Su} {r1:Int} {t0:HSt} (hS:St w0 F0 (RHeapP b0 ab0 sb0 g0 cb0 s0::ps) w) (hm:ref11_Sudog.m k s0 i1=some (r0,r1,t0)) :
    Calls Tryz.prog 124 #[nP b0 0,nI i1] w fun e w'=>e=.returned (.tuple #[.agg #[nI (r0.gor),nI (r0.chan),nI (r0.value),nI (r0.next),nI (r0.to),nI (r0.reg),nI (r0.more)],.int .i64 r1])∧St w0 F0 (RHeapP b0 ab0 sb0 g0 cb0 t0::ps) w':=by
 refine ev_enterL 47 [nP b0 0,nI i1] Tryz.func124 rfl rfl (by simp) ?_
 intro a hF
 have hF0:Fr 47 a [(0,nP b0 0),(1,nI i1)]:=hF; clear hF
 unfold ref11_Sudog.m at hm
 refine wp_seq (wp_region_lit ?_)
 refine ev_runs 1 hF0 (l':=[(4,nB w),(0,nP b0 0),(1,nI i1)]) (w':=w.alloc (.cells #[nI 0,nI 0,nI 0,nI 0,nI 0,nI 0,nI 0] 54)) (by kernel_rfl) ?_
 intro a2 hF1; clear hF0
 have hS4:St w0 F0 (BlkP (w.heap.size) 54 #[nI 0,nI 0,nI 0,nI 0,nI 0,nI 0,nI 0]::RHeapP b0 ab0 sb0 g0 cb0 s0::ps) (w.alloc (.cells #[nI 0,nI 0,nI 0,nI 0,nI 0,nI 0,nI 0] 54)):=St.new hS #[nI 0,nI 0,nI 0,nI 0,nI 0,nI 0,nI 0] 54
 refine ev_runK 1 hF1 [0,1,4] (l':=[(4,nB w),(0,nP b0 0),(1,nI i1)]) (w':=w.alloc (.cells #[nI 0,nI 0,nI 0,nI 0,nI 0,nI 0,nI 0] 54)) (by kernel_rfl) ?_
 intro a6 hF5; clear hF1
 refine wpList_nil (thenN (wp_seq (wp_region_lit ?_)))
 refine ev_runs 2 hF5 (l':=[(10,nI i1),(9,nP b0 0),(4,nB w),(0,nP b0 0),(1,nI i1)]) (w':=w.alloc (.cells #[nI 0,nI 0,nI 0,nI 0,nI 0,nI 0,nI 0] 54)) (by kernel_rfl) ?_
 intro a8 hF7; clear hF5
 have hS9:=hS4.pick1
 clear hS4
 refine ev_call 121 #[nP b0 0,nI i1,nI 3] hF7 rfl rfl (by kernel_rfl) rfl (by kernel_rfl) (fun w=>by kernel_rfl) ?_
 obtain ⟨L10,x11,s12,hx13,hm14⟩:=bind3E hm; clear hm
 refine (ref11_words.ok hS9 hx13).mono ?_
 rintro _ w15 ⟨z19,rfl,hS17⟩ a16 hF18; clear hF7 hS9
 obtain ⟨hl24,p21,c22,rfl,hp23⟩:=St.shape hS17 1 rfl
 refine ev_runK 5 hF18 [4,6,7] (l':=[(7,nI x11),(6,.slice p21 L10.length c22),(4,nB w)]) (w':=w15) (by kernel_rfl) ?_
 intro a26 hF25; clear hF18
 refine wpList_nil (thenN (wp_seq (wp_seq (wp_region_lit ?_))))
 refine ev_runK 2 hF25 [4,6,7,15] (l':=[(15,.bool (x11 != 0)),(7,nI x11),(6,.slice p21 L10.length c22),(4,nB w)]) (w':=w15) (by kernel_rfl) ?_
 intro a28 hF27; clear hF25
 refine wpList_nil (thenN ?_)
 cases hc29:(x11 != 0)
 case true =>
  rw [hc29] at hF27
  have hm30:=ifYes hc29 hm14; clear hm14
  refine ev_condT hF27 rfl rfl ?_
  refine wp_seq (wp_region_lit ?_)
  refine ev_runs 2 hF27 (l':=[(17,nI x11),(16,.agg #[nI 0,nI 0,nI 0,nI 0,nI 0,nI 0,nI 0]),(15,.bool true),(7,nI x11),(6,.slice p21 L10.length c22),(4,nB w)]) (w':=w15) (by kernel_rfl) ?_
  intro a32 hF31; clear hF27
  have hS33:=hS17.pick2
  clear hS17
  refine ev_store (.agg #[nI 0,nI 0,nI 0,nI 0,nI 0,nI 0,nI 0]) #[nI 0,nI 0,nI 0,nI 0,nI 0,nI 0,nI 0] hF31 (by kernel_rfl) rfl rfl rfl rfl (by kernel_rfl) hS33 (by kernel_rfl) (by kernel_rfl) (by kernel_rfl) (l':=[(17,nI x11),(16,.agg #[nI 0,nI 0,nI 0,nI 0,nI 0,nI 0,nI 0]),(15,.bool true),(7,nI x11),(6,.slice p21 L10.length c22),(4,nB w)]) (by kernel_rfl) ?_
  intro w34 a35 hS36 hF37; clear hF31 hS33
  refine ev_runK 1 hF37 [4,5] (l':=[(5,nI x11),(4,nB w)]) (w':=w34) (by kernel_rfl) ?_
  intro a39 hF38; clear hF37
  refine wpList_nil ?_
  have hS40:=hS36.pick2.drop
  clear hS36
  refine thenN ?_
  refine wp_ret ?_
  refine thenR ?_
  have hS41:=hS40.pick1
  clear hS40
  simp only [Option.some.injEq,Prod.mk.injEq] at hm30
  obtain ⟨rfl,rfl,rfl⟩:=hm30
  refine ev_retC hF38 _ [.agg #[nI 0,nI 0,nI 0,nI 0,nI 0,nI 0,nI 0],nI x11] (.tuple #[.agg #[nI 0,nI 0,nI 0,nI 0,nI 0,nI 0,nI 0],nI x11]) rfl ⟨⟨rfl,_,rfl,(run_loadA (cs:=[nI 0,nI 0,nI 0,nI 0,nI 0,nI 0,nI 0]) rfl rfl (by kernel_rfl) (blk_cells hS41 1 rfl rfl))⟩,⟨rfl,rfl⟩,trivial⟩ rfl ?_
  have hS45:=hS41.pick1.drop
  clear hS41
  exact ⟨rfl,hS45⟩
 rw [hc29] at hF27
 have hm46:=ifNot hc29 hm14; clear hm14
 refine ev_condF hF27 rfl rfl ?_
 refine wp_skip ?_
 have hF47:=hF27.keep [4,6,7]
 clear hF27
 refine thenN (wp_seq ?_)
 obtain ⟨hc48,hm49⟩:=ifTE hm46; clear hm46
 obtain ⟨g50,rfl⟩:=hp23.resolve_left (by have:=inR_spec hc48; omega)
 obtain ⟨hc51,hm52⟩:=ifTE hm49; clear hm49
 obtain ⟨hc53,hm54⟩:=ifTE hm52; clear hm52
 obtain ⟨hc55,hm56⟩:=ifTE hm54; clear hm54
 obtain ⟨hc57,hm58⟩:=ifTE hm56; clear hm56
 obtain ⟨hc59,hm60⟩:=ifTE hm58; clear hm58
 obtain ⟨hc61,hm62⟩:=ifTE hm60; clear hm60
 have hS63:=hS17.pick1
 clear hS17
 have hS64:=hS63.drew; clear hS63
 refine any_start (fun wS=>∃ qs,St w0 F0 (RowP (nS g50 L10 c22) L10::qs) wS) 31 #[false,false,false,false,false,false,false,false,false,false,false,false,false,false,false,false,false,false,false,false,false,false,false,false,false,false,false,false,false,false,false] (by kernel_rfl) (by kernel_rfl) (by kernel_rfl) ?_
 refine any_many 22 [(0,some (nS g50 L10 c22)),(1,some (nP g50 ((0:Int).toNat))),(2,some (nI (atI L10 (0:Int)))),(4,some (nS g50 L10 c22)),(5,some (nP g50 ((1:Int).toNat))),(6,some (nI (atI L10 (1:Int)))),(8,some (nS g50 L10 c22)),(9,some (nP g50 ((2:Int).toNat))),(10,some (nI (atI L10 (2:Int)))),(11,some (nS g50 L10 c22)),(12,some (nP g50 ((3:Int).toNat))),(13,some (nI (atI L10 (3:Int)))),(15,some (nS g50 L10 c22)),(16,some (nP g50 ((4:Int).toNat))),(17,some (nI (atI L10 (4:Int)))),(19,some (nS g50 L10 c22)),(20,some (nP g50 ((5:Int).toNat))),(21,some (nI (atI L10 (5:Int)))),(23,some (nS g50 L10 c22)),(24,some (nP g50 ((6:Int).toNat))),(25,some (nI (atI L10 (6:Int)))),(28,some (nI x11))] [4,5,20,21,24,25,28,31,32,35,36,39,40,43,44,45,46] #[true,true,true,false,true,true,true,false,true,true,true,true,true,true,false,true,true,true,false,true,true,true,false,true,true,true,false,false,true,false,false] (by rfl) hF47 (by kernel_rfl) (by kernel_rfl) (by exact ⟨fun wS hw=>by kernel_rfl,fun wS hw=>run_idx rfl rfl rfl rfl rfl (inR_spec hc48).1 (inR_spec hc48).2 _,fun wS hw=>run_load1 rfl rfl rfl (hw.elim fun qs hw=>hw.atI 0 rfl hc48),fun wS hw=>by kernel_rfl,fun wS hw=>run_idx rfl rfl rfl rfl rfl (inR_spec hc51).1 (inR_spec hc51).2 _,fun wS hw=>run_load1 rfl rfl rfl (hw.elim fun qs hw=>hw.atI 0 rfl hc51),fun wS hw=>by kernel_rfl,fun wS hw=>run_idx rfl rfl rfl rfl rfl (inR_spec hc53).1 (inR_spec hc53).2 _,fun wS hw=>run_load1 rfl rfl rfl (hw.elim fun qs hw=>hw.atI 0 rfl hc53),fun wS hw=>by kernel_rfl,fun wS hw=>run_idx rfl rfl rfl rfl rfl (inR_spec hc55).1 (inR_spec hc55).2 _,fun wS hw=>run_load1 rfl rfl rfl (hw.elim fun qs hw=>hw.atI 0 rfl hc55),fun wS hw=>by kernel_rfl,fun wS hw=>run_idx rfl rfl rfl rfl rfl (inR_spec hc57).1 (inR_spec hc57).2 _,fun wS hw=>run_load1 rfl rfl rfl (hw.elim fun qs hw=>hw.atI 0 rfl hc57),fun wS hw=>by kernel_rfl,fun wS hw=>run_idx rfl rfl rfl rfl rfl (inR_spec hc59).1 (inR_spec hc59).2 _,fun wS hw=>run_load1 rfl rfl rfl (hw.elim fun qs hw=>hw.atI 0 rfl hc59),fun wS hw=>by kernel_rfl,fun wS hw=>run_idx rfl rfl rfl rfl rfl (inR_spec hc61).1 (inR_spec hc61).2 _,fun wS hw=>run_load1 rfl rfl rfl (hw.elim fun qs hw=>hw.atI 0 rfl hc61),fun wS hw=>by kernel_rfl,trivial⟩) (fun _ _ _ _ _ h=>h) ⟨_,hS64⟩ (l':=[(46,nI x11),(43,nI (atI L10 (6:Int))),(39,nI (atI L10 (5:Int))),(35,nI (atI L10 (4:Int))),(31,nI (atI L10 (3:Int))),(28,nI (atI L10 (2:Int))),(24,nI (atI L10 (1:Int))),(20,nI (atI L10 (0:Int))),(4,nB w)]) (by kernel_rfl) ?_
 intro a66 hF65; clear hF47
 refine any_call 3 #[true,true,true,true,true,true,true,false,true,true,true,true,true,true,false,true,true,true,false,true,true,true,false,true,true,true,false,false,true,false,false] 123 #[nI (atI L10 (0:Int))] hF65 rfl (by kernel_rfl) rfl rfl (by kernel_rfl) rfl (by kernel_rfl) (fun w=>by kernel_rfl) (by kernel_rfl) ?_
 obtain ⟨x67,hx68,hm69⟩:=bind1E hm62; clear hm62
 refine (ref11_place.ok hS64 hx68).mono ?_
 rintro _ w70 ⟨rfl,hS72⟩; clear hS64
 refine ⟨⟨_,hS72⟩,?_⟩
 intro a71 hF73; clear hF65
 refine any_call 7 #[true,true,true,true,true,true,true,true,true,true,true,true,true,true,false,true,true,true,false,true,true,true,false,true,true,true,false,false,true,false,false] 123 #[nI (atI L10 (1:Int))] hF73 rfl (by kernel_rfl) rfl rfl (by kernel_rfl) rfl (by kernel_rfl) (fun w=>by kernel_rfl) (by kernel_rfl) ?_
 obtain ⟨x74,hx75,hm76⟩:=bind1E hm69; clear hm69
 refine (ref11_place.ok hS72 hx75).mono ?_
 rintro _ w77 ⟨rfl,hS79⟩; clear hS72
 refine ⟨⟨_,hS79⟩,?_⟩
 intro a78 hF80; clear hF73
 refine any_call 14 #[true,true,true,true,true,true,true,true,true,true,true,true,true,true,true,true,true,true,false,true,true,true,false,true,true,true,false,false,true,false,false] 123 #[nI (atI L10 (3:Int))] hF80 rfl (by kernel_rfl) rfl rfl (by kernel_rfl) rfl (by kernel_rfl) (fun w=>by kernel_rfl) (by kernel_rfl) ?_
 obtain ⟨x81,hx82,hm83⟩:=bind1E hm76; clear hm76
 refine (ref11_place.ok hS79 hx82).mono ?_
 rintro _ w84 ⟨rfl,hS86⟩; clear hS79
 refine ⟨⟨_,hS86⟩,?_⟩
 intro a85 hF87; clear hF80
 refine any_call 18 #[true,true,true,true,true,true,true,true,true,true,true,true,true,true,true,true,true,true,true,true,true,true,false,true,true,true,false,false,true,false,false] 122 #[nI (atI L10 (4:Int))] hF87 rfl (by kernel_rfl) rfl rfl (by kernel_rfl) rfl (by kernel_rfl) (fun w=>by kernel_rfl) (by kernel_rfl) ?_
 obtain ⟨x88,hx89,hm90⟩:=bind1E hm83; clear hm83
 refine (ref11_number.ok hS86 hx89).mono ?_
 rintro _ w91 ⟨rfl,hS93⟩; clear hS86
 refine ⟨⟨_,hS93⟩,?_⟩
 intro a92 hF94; clear hF87
 refine any_call 22 #[true,true,true,true,true,true,true,true,true,true,true,true,true,true,true,true,true,true,true,true,true,true,true,true,true,true,false,false,true,false,false] 122 #[nI (atI L10 (5:Int))] hF94 rfl (by kernel_rfl) rfl rfl (by kernel_rfl) rfl (by kernel_rfl) (fun w=>by kernel_rfl) (by kernel_rfl) ?_
 obtain ⟨x95,hx96,hm97⟩:=bind1E hm90; clear hm90
 refine (ref11_number.ok hS93 hx96).mono ?_
 rintro _ w98 ⟨rfl,hS100⟩; clear hS93
 refine ⟨⟨_,hS100⟩,?_⟩
 intro a99 hF101; clear hF94
 refine any_call 26 #[true,true,true,true,true,true,true,true,true,true,true,true,true,true,true,true,true,true,true,true,true,true,true,true,true,true,true,false,true,false,false] 123 #[nI (atI L10 (6:Int))] hF101 rfl (by kernel_rfl) rfl rfl (by kernel_rfl) rfl (by kernel_rfl) (fun w=>by kernel_rfl) (by kernel_rfl) ?_
 obtain ⟨x102,hx103,hm104⟩:=bind1E hm97; clear hm97
 refine (ref11_place.ok hS100 hx103).mono ?_
 rintro _ w105 ⟨rfl,hS107⟩; clear hS100
 refine ⟨⟨_,hS107⟩,?_⟩
 intro a106 hF108; clear hF101
 refine any_many 1 [(27,some (.agg #[nI x67,nI x74,nI (atI L10 (2:Int)),nI x81,nI x88,nI x95,nI x102]))] [4,5,45,46] #[true,true,true,true,true,true,true,true,true,true,true,true,true,true,true,true,true,true,true,true,true,true,true,true,true,true,true,true,true,false,false] (by rfl) hF108 (by kernel_rfl) (by kernel_rfl) (by exact ⟨fun wS hw=>by kernel_rfl,trivial⟩) (fun _ _ _ _ _ h=>h) ⟨_,hS107⟩ (l':=[(45,.agg #[nI x67,nI x74,nI (atI L10 (2:Int)),nI x81,nI x88,nI x95,nI x102]),(46,nI x11),(4,nB w)]) (by kernel_rfl) ?_
 intro a110 hF109; clear hF108
 refine any_one 29 (by kernel_rfl) ?_
 have hS111:=hS107.pick2
 clear hS107
 refine op_store 29 #[true,true,true,true,true,true,true,true,true,true,true,true,true,true,true,true,true,true,true,true,true,true,true,true,true,true,true,true,true,true,false] (.agg #[nI x67,nI x74,nI (atI L10 (2:Int)),nI x81,nI x88,nI x95,nI x102]) #[nI x67,nI x74,nI (atI L10 (2:Int)),nI x81,nI x88,nI x95,nI x102] hF109 rfl (by kernel_rfl) rfl rfl rfl rfl (by kernel_rfl) hS111 (by kernel_rfl) (by kernel_rfl) (by kernel_rfl) (l':=[(45,.agg #[nI x67,nI x74,nI (atI L10 (2:Int)),nI x81,nI x88,nI x95,nI x102]),(46,nI x11),(4,nB w)]) (by kernel_rfl) (by kernel_rfl) ?_
 intro w112 a113 hS114 hF115; clear hF109 hS111
 refine ⟨⟨_,hS114.pick1⟩,?_⟩
 refine any_many 1 [(30,some (nI x11))] [4,5] #[true,true,true,true,true,true,true,true,true,true,true,true,true,true,true,true,true,true,true,true,true,true,true,true,true,true,true,true,true,true,true] (by rfl) hF115 (by kernel_rfl) (by kernel_rfl) (by exact ⟨fun wS hw=>by kernel_rfl,trivial⟩) (fun _ _ _ _ _ h=>h) ⟨_,hS114.pick1⟩ (l':=[(5,nI x11),(4,nB w)]) (by kernel_rfl) ?_
 intro a117 hF116; clear hF115
 refine any_done (by kernel_rfl) ?_
 have hS118:=hS114.pick1.drop
 clear hS114
 refine thenN ?_
 refine wp_ret ?_
 have hS119:=hS118.pick1
 clear hS118
 simp only [Option.some.injEq,Prod.mk.injEq] at hm104
 obtain ⟨rfl,rfl,rfl⟩:=hm104
 refine ev_retC hF116 _ [.agg #[nI x67,nI x74,nI (atI L10 (2:Int)),nI x81,nI x88,nI x95,nI x102],nI x11] (.tuple #[.agg #[nI x67,nI x74,nI (atI L10 (2:Int)),nI x81,nI x88,nI x95,nI x102],nI x11]) rfl ⟨⟨rfl,_,rfl,(run_loadA (cs:=[nI x67,nI x74,nI (atI L10 (2:Int)),nI x81,nI x88,nI x95,nI x102]) rfl rfl (by kernel_rfl) (blk_cells hS119 1 rfl rfl))⟩,⟨rfl,rfl⟩,trivial⟩ rfl ?_
 have hS123:=hS119.pick1.drop
 clear hS119
 exact ⟨rfl,hS123⟩
def ref11_Chan.m (k:Nat) (s0:HSt) (i1:Int):Option (Ch×Int×HSt):=bind3 (ref11_words.m k s0 i1 1) fun L10 x11 s12=>(if (x11 != 0) then some ((⟨0,0,0,0,0,0,0,0,0⟩:Ch),x11,s12) else (if (inR (0:Int) L10.length) then (if (inR (1:Int) L10.length) then (if (inR (2:Int) L10.length) then (if (inR (3:Int) L10.length) then (if (inR (4:Int) L10.length) then (if (inR (5:Int) L10.length) then (if (inR (6:Int) L10.length) then (if (inR (7:Int) L10.length) then (if (inR (8:Int) L10.length) then bind1 (ref11_number.m k (atI L10 (0:Int))) fun x71=>bind1 (ref11_number.m k (atI L10 (1:Int))) fun x78=>bind1 (ref11_number.m k (atI L10 (2:Int))) fun x85=>bind1 (ref11_number.m k (atI L10 (3:Int))) fun x92=>bind1 (ref11_place.m k (atI L10 (4:Int))) fun x99=>bind1 (ref11_place.m k (atI L10 (5:Int))) fun x106=>bind1 (ref11_place.m k (atI L10 (6:Int))) fun x113=>bind1 (ref11_place.m k (atI L10 (7:Int))) fun x120=>bind1 (ref11_place.m k (atI L10 (8:Int))) fun x127=>some ((⟨x71,x78,x85,x92,x99,x106,x113,x120,x127⟩:Ch),x11,s12) else none) else none) else none) else none) else none) else none) else none) else none) else none))
theorem ref11_Chan.ok {w0 w:World} {F0:List Nat} {ps:List Piece} {k:Nat} {b0 ab0 sb0 g0 cb0:Nat} {s0:HSt} {i1:Int} {r0:Ch} {r1:Int} {t0:HSt} (hS:St w0 F0 (RHeapP b0 ab0 sb0 g0 cb0 s0::ps) w) (hm:ref11_Chan.m k s0 i1=some (r0,r1,t0)) :
    Calls Tryz.prog 96 #[nP b0 0,nI i1] w fun e w'=>e=.returned (.tuple #[.agg #[nI (r0.cap),nI (r0.closed),nI (r0.count),nI (r0.start),nI (r0.buf),nI (r0.th),nI (r0.tt),nI (r0.sh),nI (r0.st)],.int .i64 r1])∧St w0 F0 (RHeapP b0 ab0 sb0 g0 cb0 t0::ps) w':=by
 refine ev_enterL 56 [nP b0 0,nI i1] Tryz.func96 rfl rfl (by simp) ?_
 intro a hF
 have hF0:Fr 56 a [(0,nP b0 0),(1,nI i1)]:=hF; clear hF
 unfold ref11_Chan.m at hm
 refine wp_seq (wp_region_lit ?_)
 refine ev_runs 1 hF0 (l':=[(4,nB w),(0,nP b0 0),(1,nI i1)]) (w':=w.alloc (.cells #[nI 0,nI 0,nI 0,nI 0,nI 0,nI 0,nI 0,nI 0,nI 0] 37)) (by kernel_rfl) ?_
 intro a2 hF1; clear hF0
 have hS4:St w0 F0 (BlkP (w.heap.size) 37 #[nI 0,nI 0,nI 0,nI 0,nI 0,nI 0,nI 0,nI 0,nI 0]::RHeapP b0 ab0 sb0 g0 cb0 s0::ps) (w.alloc (.cells #[nI 0,nI 0,nI 0,nI 0,nI 0,nI 0,nI 0,nI 0,nI 0] 37)):=St.new hS #[nI 0,nI 0,nI 0,nI 0,nI 0,nI 0,nI 0,nI 0,nI 0] 37
 refine ev_runK 1 hF1 [0,1,4] (l':=[(4,nB w),(0,nP b0 0),(1,nI i1)]) (w':=w.alloc (.cells #[nI 0,nI 0,nI 0,nI 0,nI 0,nI 0,nI 0,nI 0,nI 0] 37)) (by kernel_rfl) ?_
 intro a6 hF5; clear hF1
 refine wpList_nil (thenN (wp_seq (wp_region_lit ?_)))
 refine ev_runs 2 hF5 (l':=[(10,nI i1),(9,nP b0 0),(4,nB w),(0,nP b0 0),(1,nI i1)]) (w':=w.alloc (.cells #[nI 0,nI 0,nI 0,nI 0,nI 0,nI 0,nI 0,nI 0,nI 0] 37)) (by kernel_rfl) ?_
 intro a8 hF7; clear hF5
 have hS9:=hS4.pick1
 clear hS4
 refine ev_call 121 #[nP b0 0,nI i1,nI 1] hF7 rfl rfl (by kernel_rfl) rfl (by kernel_rfl) (fun w=>by kernel_rfl) ?_
 obtain ⟨L10,x11,s12,hx13,hm14⟩:=bind3E hm; clear hm
 refine (ref11_words.ok hS9 hx13).mono ?_
 rintro _ w15 ⟨z19,rfl,hS17⟩ a16 hF18; clear hF7 hS9
 obtain ⟨hl24,p21,c22,rfl,hp23⟩:=St.shape hS17 1 rfl
 refine ev_runK 5 hF18 [4,6,7] (l':=[(7,nI x11),(6,.slice p21 L10.length c22),(4,nB w)]) (w':=w15) (by kernel_rfl) ?_
 intro a26 hF25; clear hF18
 refine wpList_nil (thenN (wp_seq (wp_seq (wp_region_lit ?_))))
 refine ev_runK 2 hF25 [4,6,7,15] (l':=[(15,.bool (x11 != 0)),(7,nI x11),(6,.slice p21 L10.length c22),(4,nB w)]) (w':=w15) (by kernel_rfl) ?_
 intro a28 hF27; clear hF25
 refine wpList_nil (thenN ?_)
 cases hc29:(x11 != 0)
 case true =>
  rw [hc29] at hF27
  have hm30:=ifYes hc29 hm14; clear hm14
  refine ev_condT hF27 rfl rfl ?_
  refine wp_seq (wp_region_lit ?_)
  refine ev_runs 2 hF27 (l':=[(17,nI x11),(16,.agg #[nI 0,nI 0,nI 0,nI 0,nI 0,nI 0,nI 0,nI 0,nI 0]),(15,.bool true),(7,nI x11),(6,.slice p21 L10.length c22),(4,nB w)]) (w':=w15) (by kernel_rfl) ?_
  intro a32 hF31; clear hF27
  have hS33:=hS17.pick2
  clear hS17
  refine ev_store (.agg #[nI 0,nI 0,nI 0,nI 0,nI 0,nI 0,nI 0,nI 0,nI 0]) #[nI 0,nI 0,nI 0,nI 0,nI 0,nI 0,nI 0,nI 0,nI 0] hF31 (by kernel_rfl) rfl rfl rfl rfl (by kernel_rfl) hS33 (by kernel_rfl) (by kernel_rfl) (by kernel_rfl) (l':=[(17,nI x11),(16,.agg #[nI 0,nI 0,nI 0,nI 0,nI 0,nI 0,nI 0,nI 0,nI 0]),(15,.bool true),(7,nI x11),(6,.slice p21 L10.length c22),(4,nB w)]) (by kernel_rfl) ?_
  intro w34 a35 hS36 hF37; clear hF31 hS33
  refine ev_runK 1 hF37 [4,5] (l':=[(5,nI x11),(4,nB w)]) (w':=w34) (by kernel_rfl) ?_
  intro a39 hF38; clear hF37
  refine wpList_nil ?_
  have hS40:=hS36.pick2.drop
  clear hS36
  refine thenN ?_
  refine wp_ret ?_
  refine thenR ?_
  have hS41:=hS40.pick1
  clear hS40
  simp only [Option.some.injEq,Prod.mk.injEq] at hm30
  obtain ⟨rfl,rfl,rfl⟩:=hm30
  refine ev_retC hF38 _ [.agg #[nI 0,nI 0,nI 0,nI 0,nI 0,nI 0,nI 0,nI 0,nI 0],nI x11] (.tuple #[.agg #[nI 0,nI 0,nI 0,nI 0,nI 0,nI 0,nI 0,nI 0,nI 0],nI x11]) rfl ⟨⟨rfl,_,rfl,(run_loadA (cs:=[nI 0,nI 0,nI 0,nI 0,nI 0,nI 0,nI 0,nI 0,nI 0]) rfl rfl (by kernel_rfl) (blk_cells hS41 1 rfl rfl))⟩,⟨rfl,rfl⟩,trivial⟩ rfl ?_
  have hS45:=hS41.pick1.drop
  clear hS41
  exact ⟨rfl,hS45⟩
 rw [hc29] at hF27
 have hm46:=ifNot hc29 hm14; clear hm14
 refine ev_condF hF27 rfl rfl ?_
 refine wp_skip ?_
 have hF47:=hF27.keep [4,6,7]
 clear hF27
 refine thenN (wp_seq ?_)
 obtain ⟨hc48,hm49⟩:=ifTE hm46; clear hm46
 obtain ⟨g50,rfl⟩:=hp23.resolve_left (by have:=inR_spec hc48; omega)
 obtain ⟨hc51,hm52⟩:=ifTE hm49; clear hm49
 obtain ⟨hc53,hm54⟩:=ifTE hm52; clear hm52
 obtain ⟨hc55,hm56⟩:=ifTE hm54; clear hm54
 obtain ⟨hc57,hm58⟩:=ifTE hm56; clear hm56
 obtain ⟨hc59,hm60⟩:=ifTE hm58; clear hm58
 obtain ⟨hc61,hm62⟩:=ifTE hm60; clear hm60
 obtain ⟨hc63,hm64⟩:=ifTE hm62; clear hm62
 obtain ⟨hc65,hm66⟩:=ifTE hm64; clear hm64
 have hS67:=hS17.pick1
 clear hS17
 have hS68:=hS67.drew; clear hS67
 refine any_start (fun wS=>∃ qs,St w0 F0 (RowP (nS g50 L10 c22) L10::qs) wS) 40 #[false,false,false,false,false,false,false,false,false,false,false,false,false,false,false,false,false,false,false,false,false,false,false,false,false,false,false,false,false,false,false,false,false,false,false,false,false,false,false,false] (by kernel_rfl) (by kernel_rfl) (by kernel_rfl) ?_
 refine any_many 28 [(0,some (nS g50 L10 c22)),(1,some (nP g50 ((0:Int).toNat))),(2,some (nI (atI L10 (0:Int)))),(4,some (nS g50 L10 c22)),(5,some (nP g50 ((1:Int).toNat))),(6,some (nI (atI L10 (1:Int)))),(8,some (nS g50 L10 c22)),(9,some (nP g50 ((2:Int).toNat))),(10,some (nI (atI L10 (2:Int)))),(12,some (nS g50 L10 c22)),(13,some (nP g50 ((3:Int).toNat))),(14,some (nI (atI L10 (3:Int)))),(16,some (nS g50 L10 c22)),(17,some (nP g50 ((4:Int).toNat))),(18,some (nI (atI L10 (4:Int)))),(20,some (nS g50 L10 c22)),(21,some (nP g50 ((5:Int).toNat))),(22,some (nI (atI L10 (5:Int)))),(24,some (nS g50 L10 c22)),(25,some (nP g50 ((6:Int).toNat))),(26,some (nI (atI L10 (6:Int)))),(28,some (nS g50 L10 c22)),(29,some (nP g50 ((7:Int).toNat))),(30,some (nI (atI L10 (7:Int)))),(32,some (nS g50 L10 c22)),(33,some (nP g50 ((8:Int).toNat))),(34,some (nI (atI L10 (8:Int)))),(37,some (nI x11))] [4,5,20,21,24,25,28,29,32,33,36,37,40,41,44,45,48,49,52,53,54,55] #[true,true,true,false,true,true,true,false,true,true,true,false,true,true,true,false,true,true,true,false,true,true,true,false,true,true,true,false,true,true,true,false,true,true,true,false,false,true,false,false] (by rfl) hF47 (by kernel_rfl) (by kernel_rfl) (by exact ⟨fun wS hw=>by kernel_rfl,fun wS hw=>run_idx rfl rfl rfl rfl rfl (inR_spec hc48).1 (inR_spec hc48).2 _,fun wS hw=>run_load1 rfl rfl rfl (hw.elim fun qs hw=>hw.atI 0 rfl hc48),fun wS hw=>by kernel_rfl,fun wS hw=>run_idx rfl rfl rfl rfl rfl (inR_spec hc51).1 (inR_spec hc51).2 _,fun wS hw=>run_load1 rfl rfl rfl (hw.elim fun qs hw=>hw.atI 0 rfl hc51),fun wS hw=>by kernel_rfl,fun wS hw=>run_idx rfl rfl rfl rfl rfl (inR_spec hc53).1 (inR_spec hc53).2 _,fun wS hw=>run_load1 rfl rfl rfl (hw.elim fun qs hw=>hw.atI 0 rfl hc53),fun wS hw=>by kernel_rfl,fun wS hw=>run_idx rfl rfl rfl rfl rfl (inR_spec hc55).1 (inR_spec hc55).2 _,fun wS hw=>run_load1 rfl rfl rfl (hw.elim fun qs hw=>hw.atI 0 rfl hc55),fun wS hw=>by kernel_rfl,fun wS hw=>run_idx rfl rfl rfl rfl rfl (inR_spec hc57).1 (inR_spec hc57).2 _,fun wS hw=>run_load1 rfl rfl rfl (hw.elim fun qs hw=>hw.atI 0 rfl hc57),fun wS hw=>by kernel_rfl,fun wS hw=>run_idx rfl rfl rfl rfl rfl (inR_spec hc59).1 (inR_spec hc59).2 _,fun wS hw=>run_load1 rfl rfl rfl (hw.elim fun qs hw=>hw.atI 0 rfl hc59),fun wS hw=>by kernel_rfl,fun wS hw=>run_idx rfl rfl rfl rfl rfl (inR_spec hc61).1 (inR_spec hc61).2 _,fun wS hw=>run_load1 rfl rfl rfl (hw.elim fun qs hw=>hw.atI 0 rfl hc61),fun wS hw=>by kernel_rfl,fun wS hw=>run_idx rfl rfl rfl rfl rfl (inR_spec hc63).1 (inR_spec hc63).2 _,fun wS hw=>run_load1 rfl rfl rfl (hw.elim fun qs hw=>hw.atI 0 rfl hc63),fun wS hw=>by kernel_rfl,fun wS hw=>run_idx rfl rfl rfl rfl rfl (inR_spec hc65).1 (inR_spec hc65).2 _,fun wS hw=>run_load1 rfl rfl rfl (hw.elim fun qs hw=>hw.atI 0 rfl hc65),fun wS hw=>by kernel_rfl,trivial⟩) (fun _ _ _ _ _ h=>h) ⟨_,hS68⟩ (l':=[(55,nI x11),(52,nI (atI L10 (8:Int))),(48,nI (atI L10 (7:Int))),(44,nI (atI L10 (6:Int))),(40,nI (atI L10 (5:Int))),(36,nI (atI L10 (4:Int))),(32,nI (atI L10 (3:Int))),(28,nI (atI L10 (2:Int))),(24,nI (atI L10 (1:Int))),(20,nI (atI L10 (0:Int))),(4,nB w)]) (by kernel_rfl) ?_
 intro a70 hF69; clear hF47
 refine any_call 3 #[true,true,true,true,true,true,true,false,true,true,true,false,true,true,true,false,true,true,true,false,true,true,true,false,true,true,true,false,true,true,true,false,true,true,true,false,false,true,false,false] 122 #[nI (atI L10 (0:Int))] hF69 rfl (by kernel_rfl) rfl rfl (by kernel_rfl) rfl (by kernel_rfl) (fun w=>by kernel_rfl) (by kernel_rfl) ?_
 obtain ⟨x71,hx72,hm73⟩:=bind1E hm66; clear hm66
 refine (ref11_number.ok hS68 hx72).mono ?_
 rintro _ w74 ⟨rfl,hS76⟩; clear hS68
 refine ⟨⟨_,hS76⟩,?_⟩
 intro a75 hF77; clear hF69
 refine any_call 7 #[true,true,true,true,true,true,true,true,true,true,true,false,true,true,true,false,true,true,true,false,true,true,true,false,true,true,true,false,true,true,true,false,true,true,true,false,false,true,false,false] 122 #[nI (atI L10 (1:Int))] hF77 rfl (by kernel_rfl) rfl rfl (by kernel_rfl) rfl (by kernel_rfl) (fun w=>by kernel_rfl) (by kernel_rfl) ?_
 obtain ⟨x78,hx79,hm80⟩:=bind1E hm73; clear hm73
 refine (ref11_number.ok hS76 hx79).mono ?_
 rintro _ w81 ⟨rfl,hS83⟩; clear hS76
 refine ⟨⟨_,hS83⟩,?_⟩
 intro a82 hF84; clear hF77
 refine any_call 11 #[true,true,true,true,true,true,true,true,true,true,true,true,true,true,true,false,true,true,true,false,true,true,true,false,true,true,true,false,true,true,true,false,true,true,true,false,false,true,false,false] 122 #[nI (atI L10 (2:Int))] hF84 rfl (by kernel_rfl) rfl rfl (by kernel_rfl) rfl (by kernel_rfl) (fun w=>by kernel_rfl) (by kernel_rfl) ?_
 obtain ⟨x85,hx86,hm87⟩:=bind1E hm80; clear hm80
 refine (ref11_number.ok hS83 hx86).mono ?_
 rintro _ w88 ⟨rfl,hS90⟩; clear hS83
 refine ⟨⟨_,hS90⟩,?_⟩
 intro a89 hF91; clear hF84
 refine any_call 15 #[true,true,true,true,true,true,true,true,true,true,true,true,true,true,true,true,true,true,true,false,true,true,true,false,true,true,true,false,true,true,true,false,true,true,true,false,false,true,false,false] 122 #[nI (atI L10 (3:Int))] hF91 rfl (by kernel_rfl) rfl rfl (by kernel_rfl) rfl (by kernel_rfl) (fun w=>by kernel_rfl) (by kernel_rfl) ?_
 obtain ⟨x92,hx93,hm94⟩:=bind1E hm87; clear hm87
 refine (ref11_number.ok hS90 hx93).mono ?_
 rintro _ w95 ⟨rfl,hS97⟩; clear hS90
 refine ⟨⟨_,hS97⟩,?_⟩
 intro a96 hF98; clear hF91
 refine any_call 19 #[true,true,true,true,true,true,true,true,true,true,true,true,true,true,true,true,true,true,true,true,true,true,true,false,true,true,true,false,true,true,true,false,true,true,true,false,false,true,false,false] 123 #[nI (atI L10 (4:Int))] hF98 rfl (by kernel_rfl) rfl rfl (by kernel_rfl) rfl (by kernel_rfl) (fun w=>by kernel_rfl) (by kernel_rfl) ?_
 obtain ⟨x99,hx100,hm101⟩:=bind1E hm94; clear hm94
 refine (ref11_place.ok hS97 hx100).mono ?_
 rintro _ w102 ⟨rfl,hS104⟩; clear hS97
 refine ⟨⟨_,hS104⟩,?_⟩
 intro a103 hF105; clear hF98
 refine any_call 23 #[true,true,true,true,true,true,true,true,true,true,true,true,true,true,true,true,true,true,true,true,true,true,true,true,true,true,true,false,true,true,true,false,true,true,true,false,false,true,false,false] 123 #[nI (atI L10 (5:Int))] hF105 rfl (by kernel_rfl) rfl rfl (by kernel_rfl) rfl (by kernel_rfl) (fun w=>by kernel_rfl) (by kernel_rfl) ?_
 obtain ⟨x106,hx107,hm108⟩:=bind1E hm101; clear hm101
 refine (ref11_place.ok hS104 hx107).mono ?_
 rintro _ w109 ⟨rfl,hS111⟩; clear hS104
 refine ⟨⟨_,hS111⟩,?_⟩
 intro a110 hF112; clear hF105
 refine any_call 27 #[true,true,true,true,true,true,true,true,true,true,true,true,true,true,true,true,true,true,true,true,true,true,true,true,true,true,true,true,true,true,true,false,true,true,true,false,false,true,false,false] 123 #[nI (atI L10 (6:Int))] hF112 rfl (by kernel_rfl) rfl rfl (by kernel_rfl) rfl (by kernel_rfl) (fun w=>by kernel_rfl) (by kernel_rfl) ?_
 obtain ⟨x113,hx114,hm115⟩:=bind1E hm108; clear hm108
 refine (ref11_place.ok hS111 hx114).mono ?_
 rintro _ w116 ⟨rfl,hS118⟩; clear hS111
 refine ⟨⟨_,hS118⟩,?_⟩
 intro a117 hF119; clear hF112
 refine any_call 31 #[true,true,true,true,true,true,true,true,true,true,true,true,true,true,true,true,true,true,true,true,true,true,true,true,true,true,true,true,true,true,true,true,true,true,true,false,false,true,false,false] 123 #[nI (atI L10 (7:Int))] hF119 rfl (by kernel_rfl) rfl rfl (by kernel_rfl) rfl (by kernel_rfl) (fun w=>by kernel_rfl) (by kernel_rfl) ?_
 obtain ⟨x120,hx121,hm122⟩:=bind1E hm115; clear hm115
 refine (ref11_place.ok hS118 hx121).mono ?_
 rintro _ w123 ⟨rfl,hS125⟩; clear hS118
 refine ⟨⟨_,hS125⟩,?_⟩
 intro a124 hF126; clear hF119
 refine any_call 35 #[true,true,true,true,true,true,true,true,true,true,true,true,true,true,true,true,true,true,true,true,true,true,true,true,true,true,true,true,true,true,true,true,true,true,true,true,false,true,false,false] 123 #[nI (atI L10 (8:Int))] hF126 rfl (by kernel_rfl) rfl rfl (by kernel_rfl) rfl (by kernel_rfl) (fun w=>by kernel_rfl) (by kernel_rfl) ?_
 obtain ⟨x127,hx128,hm129⟩:=bind1E hm122; clear hm122
 refine (ref11_place.ok hS125 hx128).mono ?_
 rintro _ w130 ⟨rfl,hS132⟩; clear hS125
 refine ⟨⟨_,hS132⟩,?_⟩
 intro a131 hF133; clear hF126
 refine any_many 1 [(36,some (.agg #[nI x71,nI x78,nI x85,nI x92,nI x99,nI x106,nI x113,nI x120,nI x127]))] [4,5,54,55] #[true,true,true,true,true,true,true,true,true,true,true,true,true,true,true,true,true,true,true,true,true,true,true,true,true,true,true,true,true,true,true,true,true,true,true,true,true,true,false,false] (by rfl) hF133 (by kernel_rfl) (by kernel_rfl) (by exact ⟨fun wS hw=>by kernel_rfl,trivial⟩) (fun _ _ _ _ _ h=>h) ⟨_,hS132⟩ (l':=[(54,.agg #[nI x71,nI x78,nI x85,nI x92,nI x99,nI x106,nI x113,nI x120,nI x127]),(55,nI x11),(4,nB w)]) (by kernel_rfl) ?_
 intro a135 hF134; clear hF133
 refine any_one 38 (by kernel_rfl) ?_
 have hS136:=hS132.pick2
 clear hS132
 refine op_store 38 #[true,true,true,true,true,true,true,true,true,true,true,true,true,true,true,true,true,true,true,true,true,true,true,true,true,true,true,true,true,true,true,true,true,true,true,true,true,true,true,false] (.agg #[nI x71,nI x78,nI x85,nI x92,nI x99,nI x106,nI x113,nI x120,nI x127]) #[nI x71,nI x78,nI x85,nI x92,nI x99,nI x106,nI x113,nI x120,nI x127] hF134 rfl (by kernel_rfl) rfl rfl rfl rfl (by kernel_rfl) hS136 (by kernel_rfl) (by kernel_rfl) (by kernel_rfl) (l':=[(54,.agg #[nI x71,nI x78,nI x85,nI x92,nI x99,nI x106,nI x113,nI x120,nI x127]),(55,nI x11),(4,nB w)]) (by kernel_rfl) (by kernel_rfl) ?_
 intro w137 a138 hS139 hF140; clear hF134 hS136
 refine ⟨⟨_,hS139.pick1⟩,?_⟩
 refine any_many 1 [(39,some (nI x11))] [4,5] #[true,true,true,true,true,true,true,true,true,true,true,true,true,true,true,true,true,true,true,true,true,true,true,true,true,true,true,true,true,true,true,true,true,true,true,true,true,true,true,true] (by rfl) hF140 (by kernel_rfl) (by kernel_rfl) (by exact ⟨fun wS hw=>by kernel_rfl,trivial⟩) (fun _ _ _ _ _ h=>h) ⟨_,hS139.pick1⟩ (l':=[(5,nI x11),(4,nB w)]) (by kernel_rfl) ?_
 intro a142 hF141; clear hF140
 refine any_done (by kernel_rfl) ?_
 have hS143:=hS139.pick1.drop
 clear hS139
 refine thenN ?_
 refine wp_ret ?_
 have hS144:=hS143.pick1
 clear hS143
 simp only [Option.some.injEq,Prod.mk.injEq] at hm129
 obtain ⟨rfl,rfl,rfl⟩:=hm129
 refine ev_retC hF141 _ [.agg #[nI x71,nI x78,nI x85,nI x92,nI x99,nI x106,nI x113,nI x120,nI x127],nI x11] (.tuple #[.agg #[nI x71,nI x78,nI x85,nI x92,nI x99,nI x106,nI x113,nI x120,nI x127],nI x11]) rfl ⟨⟨rfl,_,rfl,(run_loadA (cs:=[nI x71,nI x78,nI x85,nI x92,nI x99,nI x106,nI x113,nI x120,nI x127]) rfl rfl (by kernel_rfl) (blk_cells hS144 1 rfl rfl))⟩,⟨rfl,rfl⟩,trivial⟩ rfl ?_
 have hS148:=hS144.pick1.drop
 clear hS144
 exact ⟨rfl,hS148⟩
def ref11_Gor.l2b (L10:List Int) (x11:Int) (s12:HSt) (x49:Int) (x50:Int) (x51:Int) (x52:Int) (rec71:Int→Int→Int→Int→Int→Int→Int→Option (Gr×Int×HSt)) (x62:Int) (x63:Int) (x64:Int) (x65:Int) (x66:Int) (x67:Int) (x68:Int):Option (Gr×Int×HSt):=(if (decide (x68<6)) then (if (inR (IntKind.i64.wrap (3+x68)) L10.length) then (if (x68 == 0) then rec71 (atI L10 (IntKind.i64.wrap (3+x68))) x63 x64 x65 x66 x67 (IntKind.i64.wrap (x68+1)) else (if (x68 == 1) then rec71 x62 (atI L10 (IntKind.i64.wrap (3+x68))) x64 x65 x66 x67 (IntKind.i64.wrap (x68+1)) else (if (x68 == 2) then rec71 x62 x63 (atI L10 (IntKind.i64.wrap (3+x68))) x65 x66 x67 (IntKind.i64.wrap (x68+1)) else (if (x68 == 3) then rec71 x62 x63 x64 (atI L10 (IntKind.i64.wrap (3+x68))) x66 x67 (IntKind.i64.wrap (x68+1)) else (if (x68 == 4) then rec71 x62 x63 x64 x65 (atI L10 (IntKind.i64.wrap (3+x68))) x67 (IntKind.i64.wrap (x68+1)) else (if (x68 == 5) then rec71 x62 x63 x64 x65 x66 (atI L10 (IntKind.i64.wrap (3+x68))) (IntKind.i64.wrap (x68+1)) else none)))))) else none) else some ((⟨x49,x50,x51,x62,x63,x64,x65,x66,x67,x52⟩:Gr),x11,s12))
def ref11_Gor.l2 (L10:List Int) (x11:Int) (s12:HSt) (x49:Int) (x50:Int) (x51:Int) (x52:Int):Nat→Int→Int→Int→Int→Int→Int→Int→Option (Gr×Int×HSt)
  | 0=>fun _ _ _ _ _ _ _=>none
  | kI+1=>ref11_Gor.l2b L10 x11 s12 x49 x50 x51 x52 (ref11_Gor.l2 L10 x11 s12 x49 x50 x51 x52 kI)
def ref11_Gor.j1 (k:Nat) (L10:List Int) (x11:Int) (s12:HSt) (x49:Int) (x50:Int) (x51:Int) (x52:Int):Option (Gr×Int×HSt):=ref11_Gor.l2 L10 x11 s12 x49 x50 x51 x52 k 0 0 0 0 0 0 0
def ref11_Gor.m (k:Nat) (s0:HSt) (i1:Int):Option (Gr×Int×HSt):=bind3 (ref11_words.m k s0 i1 4) fun L10 x11 s12=>(if (x11 != 0) then some ((⟨0,0,0,0,0,0,0,0,0,0⟩:Gr),x11,s12) else (if (inR (0:Int) L10.length) then (if (inR (1:Int) L10.length) then (if (inR (2:Int) L10.length) then (if (inR (9:Int) L10.length) then bind1 (ref11_number.m k (atI L10 (0:Int))) fun x195=>bind1 (ref11_number.m k (atI L10 (1:Int))) fun x202=>bind1 (ref11_number.m k (atI L10 (2:Int))) fun x209=>bind1 (ref11_place.m k (atI L10 (9:Int))) fun x216=>ref11_Gor.j1 k L10 x11 s12 x195 x202 x209 x216 else none) else none) else none) else none))
theorem ref11_Gor.ok {w0 w:World} {F0:List Nat} {ps:List Piece} {k:Nat} {b0 ab0 sb0 g0 cb0:Nat} {s0:HSt} {i1:Int} {r0:Gr} {r1:Int} {t0:HSt} (hS:St w0 F0 (RHeapP b0 ab0 sb0 g0 cb0 s0::ps) w) (hm:ref11_Gor.m k s0 i1=some (r0,r1,t0)) :
    Calls Tryz.prog 84 #[nP b0 0,nI i1] w fun e w'=>e=.returned (.tuple #[.agg #[nI (r0.id),nI (r0.status),nI (r0.pc),nI (r0.a),nI (r0.b),nI (r0.c),nI (r0.d),nI (r0.e),nI (r0.f),nI (r0.sudogs)],.int .i64 r1])∧St w0 F0 (RHeapP b0 ab0 sb0 g0 cb0 t0::ps) w':=by
 refine ev_enterL 51 [nP b0 0,nI i1] Tryz.func84 rfl rfl (by simp) ?_
 intro a hF
 have hF0:Fr 51 a [(0,nP b0 0),(1,nI i1)]:=hF; clear hF
 unfold ref11_Gor.m at hm
 refine wp_seq (wp_region_lit ?_)
 refine ev_runs 1 hF0 (l':=[(4,nB w),(0,nP b0 0),(1,nI i1)]) (w':=w.alloc (.cells #[nI 0,nI 0,nI 0,nI 0,nI 0,nI 0,nI 0,nI 0,nI 0,nI 0] 70)) (by kernel_rfl) ?_
 intro a2 hF1; clear hF0
 have hS4:St w0 F0 (BlkP (w.heap.size) 70 #[nI 0,nI 0,nI 0,nI 0,nI 0,nI 0,nI 0,nI 0,nI 0,nI 0]::RHeapP b0 ab0 sb0 g0 cb0 s0::ps) (w.alloc (.cells #[nI 0,nI 0,nI 0,nI 0,nI 0,nI 0,nI 0,nI 0,nI 0,nI 0] 70)):=St.new hS #[nI 0,nI 0,nI 0,nI 0,nI 0,nI 0,nI 0,nI 0,nI 0,nI 0] 70
 refine ev_runK 1 hF1 [0,1,4] (l':=[(4,nB w),(0,nP b0 0),(1,nI i1)]) (w':=w.alloc (.cells #[nI 0,nI 0,nI 0,nI 0,nI 0,nI 0,nI 0,nI 0,nI 0,nI 0] 70)) (by kernel_rfl) ?_
 intro a6 hF5; clear hF1
 refine wpList_nil (thenN (wp_seq (wp_region_lit ?_)))
 refine ev_runs 2 hF5 (l':=[(12,nI i1),(11,nP b0 0),(4,nB w),(0,nP b0 0),(1,nI i1)]) (w':=w.alloc (.cells #[nI 0,nI 0,nI 0,nI 0,nI 0,nI 0,nI 0,nI 0,nI 0,nI 0] 70)) (by kernel_rfl) ?_
 intro a8 hF7; clear hF5
 have hS9:=hS4.pick1
 clear hS4
 refine ev_call 121 #[nP b0 0,nI i1,nI 4] hF7 rfl rfl (by kernel_rfl) rfl (by kernel_rfl) (fun w=>by kernel_rfl) ?_
 obtain ⟨L10,x11,s12,hx13,hm14⟩:=bind3E hm; clear hm
 refine (ref11_words.ok hS9 hx13).mono ?_
 rintro _ w15 ⟨z19,rfl,hS17⟩ a16 hF18; clear hF7 hS9
 obtain ⟨hl24,p21,c22,rfl,hp23⟩:=St.shape hS17 1 rfl
 refine ev_runK 5 hF18 [4,6,7] (l':=[(7,nI x11),(6,.slice p21 L10.length c22),(4,nB w)]) (w':=w15) (by kernel_rfl) ?_
 intro a26 hF25; clear hF18
 refine wpList_nil (thenN (wp_seq (wp_seq (wp_region_lit ?_))))
 refine ev_runK 2 hF25 [4,6,7,17] (l':=[(17,.bool (x11 != 0)),(7,nI x11),(6,.slice p21 L10.length c22),(4,nB w)]) (w':=w15) (by kernel_rfl) ?_
 intro a28 hF27; clear hF25
 refine wpList_nil (thenN ?_)
 cases hc29:(x11 != 0)
 case true =>
  rw [hc29] at hF27
  have hm30:=ifYes hc29 hm14; clear hm14
  refine ev_condT hF27 rfl rfl ?_
  refine wp_seq (wp_region_lit ?_)
  refine ev_runs 2 hF27 (l':=[(19,nI x11),(18,.agg #[nI 0,nI 0,nI 0,nI 0,nI 0,nI 0,nI 0,nI 0,nI 0,nI 0]),(17,.bool true),(7,nI x11),(6,.slice p21 L10.length c22),(4,nB w)]) (w':=w15) (by kernel_rfl) ?_
  intro a32 hF31; clear hF27
  have hS33:=hS17.pick2
  clear hS17
  refine ev_store (.agg #[nI 0,nI 0,nI 0,nI 0,nI 0,nI 0,nI 0,nI 0,nI 0,nI 0]) #[nI 0,nI 0,nI 0,nI 0,nI 0,nI 0,nI 0,nI 0,nI 0,nI 0] hF31 (by kernel_rfl) rfl rfl rfl rfl (by kernel_rfl) hS33 (by kernel_rfl) (by kernel_rfl) (by kernel_rfl) (l':=[(19,nI x11),(18,.agg #[nI 0,nI 0,nI 0,nI 0,nI 0,nI 0,nI 0,nI 0,nI 0,nI 0]),(17,.bool true),(7,nI x11),(6,.slice p21 L10.length c22),(4,nB w)]) (by kernel_rfl) ?_
  intro w34 a35 hS36 hF37; clear hF31 hS33
  refine ev_runK 1 hF37 [4,5] (l':=[(5,nI x11),(4,nB w)]) (w':=w34) (by kernel_rfl) ?_
  intro a39 hF38; clear hF37
  refine wpList_nil ?_
  have hS40:=hS36.pick2.drop
  clear hS36
  refine thenN ?_
  refine wp_ret ?_
  refine thenR ?_
  have hS41:=hS40.pick1
  clear hS40
  simp only [Option.some.injEq,Prod.mk.injEq] at hm30
  obtain ⟨rfl,rfl,rfl⟩:=hm30
  refine ev_retC hF38 _ [.agg #[nI 0,nI 0,nI 0,nI 0,nI 0,nI 0,nI 0,nI 0,nI 0,nI 0],nI x11] (.tuple #[.agg #[nI 0,nI 0,nI 0,nI 0,nI 0,nI 0,nI 0,nI 0,nI 0,nI 0],nI x11]) rfl ⟨⟨rfl,_,rfl,(run_loadA (cs:=[nI 0,nI 0,nI 0,nI 0,nI 0,nI 0,nI 0,nI 0,nI 0,nI 0]) rfl rfl (by kernel_rfl) (blk_cells hS41 1 rfl rfl))⟩,⟨rfl,rfl⟩,trivial⟩ rfl ?_
  have hS45:=hS41.pick1.drop
  clear hS41
  exact ⟨rfl,hS45⟩
 rw [hc29] at hF27
 have hm46:=ifNot hc29 hm14; clear hm14
 refine ev_condF hF27 rfl rfl ?_
 refine wp_skip ?_
 have hF47:=hF27.keep [4,6,7]
 clear hF27
 refine thenN (wp_seq ?_)
 refine joinQ (fun aI wI=>∃ (g48:Nat) (x49:Int) (x50:Int) (x51:Int) (x52:Int),Fr 51 aI [(8,nP g48 0),(7,nI x11),(6,.slice p21 L10.length c22),(4,nB w)]∧St w0 F0 (BlkP g48 70 #[nI x49,nI x50,nI x51,nI 0,nI 0,nI 0,nI 0,nI 0,nI 0,nI x52]::RowP (.slice p21 L10.length c22) L10::RHeapP b0 ab0 sb0 g0 cb0 s12::BlkP (w.heap.size) 70 #[nI 0,nI 0,nI 0,nI 0,nI 0,nI 0,nI 0,nI 0,nI 0,nI 0]::ps) wI∧ref11_Gor.j1 k L10 x11 s12 x49 x50 x51 x52=some (r0,r1,t0)) ?_ ?_
 rotate_left
 · rintro a54 w55 ⟨g48,x49,x50,x51,x52,hF56,hS57,hm58⟩
   clear hF47 hS17 hm46
   unfold ref11_Gor.j1 at hm58
   refine thenN (wp_seq (wp_seq (wp_region_lit ?_)))
   refine ev_runs 1 hF56 (l':=[(9,nI 0),(8,nP g48 0),(7,nI x11),(6,.slice p21 L10.length c22),(4,nB w)]) (w':=w55) (by kernel_rfl) ?_
   intro a61 hF60; clear hF56
   refine wpList_nil (thenN ?_)
   refine wp_block ?_
   refine wp_loop_ghost (fun kI aI wI=>∃ (x62:Int) (x63:Int) (x64:Int) (x65:Int) (x66:Int) (x67:Int) (x68:Int),Fr 51 aI [(9,nI x68),(8,nP g48 0),(7,nI x11),(6,.slice p21 L10.length c22),(4,nB w)]∧St w0 F0 (BlkP g48 70 #[nI x49,nI x50,nI x51,nI x62,nI x63,nI x64,nI x65,nI x66,nI x67,nI x52]::RowP (.slice p21 L10.length c22) L10::RHeapP b0 ab0 sb0 g0 cb0 s12::BlkP (w.heap.size) 70 #[nI 0,nI 0,nI 0,nI 0,nI 0,nI 0,nI 0,nI 0,nI 0,nI 0]::ps) wI∧ref11_Gor.l2 L10 x11 s12 x49 x50 x51 x52 kI x62 x63 x64 x65 x66 x67 x68=some (r0,r1,t0)) k ⟨0,0,0,0,0,0,0,hF60,hS57,hm58⟩ ?_
   rintro k69 a70 w71 ⟨x62,x63,x64,x65,x66,x67,x68,hF72,hS73,hm74⟩
   clear hF60 hS57 hm58
   rcases k69 with _ | k69
   · cases hm74
   have hm75:ref11_Gor.l2b L10 x11 s12 x49 x50 x51 x52 (ref11_Gor.l2 L10 x11 s12 x49 x50 x51 x52 k69) x62 x63 x64 x65 x66 x67 x68=some (r0,r1,t0):=hm74
   clear hm74
   unfold ref11_Gor.l2b at hm75
   refine wp_seq (wp_seq (wp_region_lit ?_))
   refine ev_runK 2 hF72 [4,6,7,8,9,38] (l':=[(38,.bool (decide (x68<6))),(9,nI x68),(8,nP g48 0),(7,nI x11),(6,.slice p21 L10.length c22),(4,nB w)]) (w':=w71) (by kernel_rfl) ?_
   intro a77 hF76; clear hF72
   refine wpList_nil (thenN ?_)
   cases hc78:(decide (x68<6))
   case true =>
    rw [hc78] at hF76
    have hm79:=ifYes hc78 hm75; clear hm75
    refine ev_condT hF76 rfl rfl ?_
    refine wp_skip ?_
    have hF80:=hF76.keep [4,6,7,8,9]
    clear hF76
    refine thenN (wp_seq ?_)
    refine wp_block ?_
    refine wp_region_lit ?_
    refine ev_runs 4 hF80 (l':=[(44,nI (IntKind.i64.wrap (3+x68))),(43,nI x68),(42,.slice p21 L10.length c22),(41,nI x68),(9,nI x68),(8,nP g48 0),(7,nI x11),(6,.slice p21 L10.length c22),(4,nB w)]) (w':=w71) (by kernel_rfl) ?_
    intro a82 hF81; clear hF80
    obtain ⟨hc83,hm84⟩:=ifTE hm79; clear hm79
    obtain ⟨g85,rfl⟩:=hp23.resolve_left (by have:=inR_spec hc83; omega)
    refine ev_one (nP g85 ((IntKind.i64.wrap (3+x68)).toNat)) w71 hF81 (by kernel_rfl) rfl (by kernel_rfl) (run_idx rfl rfl rfl rfl rfl (inR_spec hc83).1 (inR_spec hc83).2 _) (l':=[(45,nP g85 ((IntKind.i64.wrap (3+x68)).toNat)),(44,nI (IntKind.i64.wrap (3+x68))),(43,nI x68),(42,nS g85 L10 c22),(41,nI x68),(9,nI x68),(8,nP g48 0),(7,nI x11),(6,nS g85 L10 c22),(4,nB w)]) (by kernel_rfl) ?_
    intro a87 hF86; clear hF81
    refine ev_one (nI (atI L10 (IntKind.i64.wrap (3+x68)))) w71 hF86 (by kernel_rfl) rfl (by kernel_rfl) (run_load1 rfl rfl rfl (hS73.atI 1 rfl hc83)) (l':=[(46,nI (atI L10 (IntKind.i64.wrap (3+x68)))),(45,nP g85 ((IntKind.i64.wrap (3+x68)).toNat)),(44,nI (IntKind.i64.wrap (3+x68))),(43,nI x68),(42,nS g85 L10 c22),(41,nI x68),(9,nI x68),(8,nP g48 0),(7,nI x11),(6,nS g85 L10 c22),(4,nB w)]) (by kernel_rfl) ?_
    intro a89 hF88; clear hF86
    refine ev_runs 1 hF88 (l':=[(47,nP g48 3),(46,nI (atI L10 (IntKind.i64.wrap (3+x68)))),(45,nP g85 ((IntKind.i64.wrap (3+x68)).toNat)),(44,nI (IntKind.i64.wrap (3+x68))),(43,nI x68),(42,nS g85 L10 c22),(41,nI x68),(9,nI x68),(8,nP g48 0),(7,nI x11),(6,nS g85 L10 c22),(4,nB w)]) (w':=w71) (by kernel_rfl) ?_
    intro a91 hF90; clear hF88
    cases hc92:(x68 == 0)
    case true =>
     have hm93:=ifYes hc92 hm84; clear hm84
     refine ev_one (nP g48 3) w71 hF90 (by kernel_rfl) rfl (by kernel_rfl) (run_idxA (q:=0) rfl rfl rfl rfl (congrArg (Value.int .i64) (eq_of_beq hc92)) (by decide) (by decide) (by kernel_rfl) _) (l':=[(48,nP g48 3),(47,nP g48 3),(46,nI (atI L10 (IntKind.i64.wrap (3+x68)))),(45,nP g85 ((IntKind.i64.wrap (3+x68)).toNat)),(44,nI (IntKind.i64.wrap (3+x68))),(43,nI x68),(42,nS g85 L10 c22),(41,nI x68),(9,nI x68),(8,nP g48 0),(7,nI x11),(6,nS g85 L10 c22),(4,nB w)]) (by kernel_rfl) ?_
     intro a95 hF94; clear hF90
     refine ev_store (nI (atI L10 (IntKind.i64.wrap (3+x68)))) #[nI x49,nI x50,nI x51,nI (atI L10 (IntKind.i64.wrap (3+x68))),nI x63,nI x64,nI x65,nI x66,nI x67,nI x52] hF94 (by kernel_rfl) rfl rfl rfl rfl (by kernel_rfl) hS73 (by kernel_rfl) (by kernel_rfl) (by kernel_rfl) (l':=[(48,nP g48 3),(47,nP g48 3),(46,nI (atI L10 (IntKind.i64.wrap (3+x68)))),(45,nP g85 ((IntKind.i64.wrap (3+x68)).toNat)),(44,nI (IntKind.i64.wrap (3+x68))),(43,nI x68),(42,nS g85 L10 c22),(41,nI x68),(9,nI x68),(8,nP g48 0),(7,nI x11),(6,nS g85 L10 c22),(4,nB w)]) (by kernel_rfl) ?_
     intro w96 a97 hS98 hF99; clear hF94 hS73
     refine wpList_nil ?_
     have hF100:=hF99.keep [4,6,7,8,9]
     clear hF99
     refine blockN ?_
     refine thenN (wp_region_lit ?_)
     refine ev_runK 3 hF100 [4,6,7,8,9] (l':=[(9,nI (IntKind.i64.wrap (x68+1))),(8,nP g48 0),(7,nI x11),(6,nS g85 L10 c22),(4,nB w)]) (w':=w96) (by kernel_rfl) ?_
     intro a102 hF101; clear hF100
     refine wpList_nil ?_
     exact thenN ⟨k69,Nat.lt_succ_self _,atI L10 (IntKind.i64.wrap (3+x68)),x63,x64,x65,x66,x67,IntKind.i64.wrap (x68+1),hF101,hS98,hm93⟩
    have hm103:=ifNot hc92 hm84; clear hm84
    cases hc104:(x68 == 1)
    case true =>
     have hm105:=ifYes hc104 hm103; clear hm103
     refine ev_one (nP g48 4) w71 hF90 (by kernel_rfl) rfl (by kernel_rfl) (run_idxA (q:=1) rfl rfl rfl rfl (congrArg (Value.int .i64) (eq_of_beq hc104)) (by decide) (by decide) (by kernel_rfl) _) (l':=[(48,nP g48 4),(47,nP g48 3),(46,nI (atI L10 (IntKind.i64.wrap (3+x68)))),(45,nP g85 ((IntKind.i64.wrap (3+x68)).toNat)),(44,nI (IntKind.i64.wrap (3+x68))),(43,nI x68),(42,nS g85 L10 c22),(41,nI x68),(9,nI x68),(8,nP g48 0),(7,nI x11),(6,nS g85 L10 c22),(4,nB w)]) (by kernel_rfl) ?_
     intro a107 hF106; clear hF90
     refine ev_store (nI (atI L10 (IntKind.i64.wrap (3+x68)))) #[nI x49,nI x50,nI x51,nI x62,nI (atI L10 (IntKind.i64.wrap (3+x68))),nI x64,nI x65,nI x66,nI x67,nI x52] hF106 (by kernel_rfl) rfl rfl rfl rfl (by kernel_rfl) hS73 (by kernel_rfl) (by kernel_rfl) (by kernel_rfl) (l':=[(48,nP g48 4),(47,nP g48 3),(46,nI (atI L10 (IntKind.i64.wrap (3+x68)))),(45,nP g85 ((IntKind.i64.wrap (3+x68)).toNat)),(44,nI (IntKind.i64.wrap (3+x68))),(43,nI x68),(42,nS g85 L10 c22),(41,nI x68),(9,nI x68),(8,nP g48 0),(7,nI x11),(6,nS g85 L10 c22),(4,nB w)]) (by kernel_rfl) ?_
     intro w108 a109 hS110 hF111; clear hF106 hS73
     refine wpList_nil ?_
     have hF112:=hF111.keep [4,6,7,8,9]
     clear hF111
     refine blockN ?_
     refine thenN (wp_region_lit ?_)
     refine ev_runK 3 hF112 [4,6,7,8,9] (l':=[(9,nI (IntKind.i64.wrap (x68+1))),(8,nP g48 0),(7,nI x11),(6,nS g85 L10 c22),(4,nB w)]) (w':=w108) (by kernel_rfl) ?_
     intro a114 hF113; clear hF112
     refine wpList_nil ?_
     exact thenN ⟨k69,Nat.lt_succ_self _,x62,atI L10 (IntKind.i64.wrap (3+x68)),x64,x65,x66,x67,IntKind.i64.wrap (x68+1),hF113,hS110,hm105⟩
    have hm115:=ifNot hc104 hm103; clear hm103
    cases hc116:(x68 == 2)
    case true =>
     have hm117:=ifYes hc116 hm115; clear hm115
     refine ev_one (nP g48 5) w71 hF90 (by kernel_rfl) rfl (by kernel_rfl) (run_idxA (q:=2) rfl rfl rfl rfl (congrArg (Value.int .i64) (eq_of_beq hc116)) (by decide) (by decide) (by kernel_rfl) _) (l':=[(48,nP g48 5),(47,nP g48 3),(46,nI (atI L10 (IntKind.i64.wrap (3+x68)))),(45,nP g85 ((IntKind.i64.wrap (3+x68)).toNat)),(44,nI (IntKind.i64.wrap (3+x68))),(43,nI x68),(42,nS g85 L10 c22),(41,nI x68),(9,nI x68),(8,nP g48 0),(7,nI x11),(6,nS g85 L10 c22),(4,nB w)]) (by kernel_rfl) ?_
     intro a119 hF118; clear hF90
     refine ev_store (nI (atI L10 (IntKind.i64.wrap (3+x68)))) #[nI x49,nI x50,nI x51,nI x62,nI x63,nI (atI L10 (IntKind.i64.wrap (3+x68))),nI x65,nI x66,nI x67,nI x52] hF118 (by kernel_rfl) rfl rfl rfl rfl (by kernel_rfl) hS73 (by kernel_rfl) (by kernel_rfl) (by kernel_rfl) (l':=[(48,nP g48 5),(47,nP g48 3),(46,nI (atI L10 (IntKind.i64.wrap (3+x68)))),(45,nP g85 ((IntKind.i64.wrap (3+x68)).toNat)),(44,nI (IntKind.i64.wrap (3+x68))),(43,nI x68),(42,nS g85 L10 c22),(41,nI x68),(9,nI x68),(8,nP g48 0),(7,nI x11),(6,nS g85 L10 c22),(4,nB w)]) (by kernel_rfl) ?_
     intro w120 a121 hS122 hF123; clear hF118 hS73
     refine wpList_nil ?_
     have hF124:=hF123.keep [4,6,7,8,9]
     clear hF123
     refine blockN ?_
     refine thenN (wp_region_lit ?_)
     refine ev_runK 3 hF124 [4,6,7,8,9] (l':=[(9,nI (IntKind.i64.wrap (x68+1))),(8,nP g48 0),(7,nI x11),(6,nS g85 L10 c22),(4,nB w)]) (w':=w120) (by kernel_rfl) ?_
     intro a126 hF125; clear hF124
     refine wpList_nil ?_
     exact thenN ⟨k69,Nat.lt_succ_self _,x62,x63,atI L10 (IntKind.i64.wrap (3+x68)),x65,x66,x67,IntKind.i64.wrap (x68+1),hF125,hS122,hm117⟩
    have hm127:=ifNot hc116 hm115; clear hm115
    cases hc128:(x68 == 3)
    case true =>
     have hm129:=ifYes hc128 hm127; clear hm127
     refine ev_one (nP g48 6) w71 hF90 (by kernel_rfl) rfl (by kernel_rfl) (run_idxA (q:=3) rfl rfl rfl rfl (congrArg (Value.int .i64) (eq_of_beq hc128)) (by decide) (by decide) (by kernel_rfl) _) (l':=[(48,nP g48 6),(47,nP g48 3),(46,nI (atI L10 (IntKind.i64.wrap (3+x68)))),(45,nP g85 ((IntKind.i64.wrap (3+x68)).toNat)),(44,nI (IntKind.i64.wrap (3+x68))),(43,nI x68),(42,nS g85 L10 c22),(41,nI x68),(9,nI x68),(8,nP g48 0),(7,nI x11),(6,nS g85 L10 c22),(4,nB w)]) (by kernel_rfl) ?_
     intro a131 hF130; clear hF90
     refine ev_store (nI (atI L10 (IntKind.i64.wrap (3+x68)))) #[nI x49,nI x50,nI x51,nI x62,nI x63,nI x64,nI (atI L10 (IntKind.i64.wrap (3+x68))),nI x66,nI x67,nI x52] hF130 (by kernel_rfl) rfl rfl rfl rfl (by kernel_rfl) hS73 (by kernel_rfl) (by kernel_rfl) (by kernel_rfl) (l':=[(48,nP g48 6),(47,nP g48 3),(46,nI (atI L10 (IntKind.i64.wrap (3+x68)))),(45,nP g85 ((IntKind.i64.wrap (3+x68)).toNat)),(44,nI (IntKind.i64.wrap (3+x68))),(43,nI x68),(42,nS g85 L10 c22),(41,nI x68),(9,nI x68),(8,nP g48 0),(7,nI x11),(6,nS g85 L10 c22),(4,nB w)]) (by kernel_rfl) ?_
     intro w132 a133 hS134 hF135; clear hF130 hS73
     refine wpList_nil ?_
     have hF136:=hF135.keep [4,6,7,8,9]
     clear hF135
     refine blockN ?_
     refine thenN (wp_region_lit ?_)
     refine ev_runK 3 hF136 [4,6,7,8,9] (l':=[(9,nI (IntKind.i64.wrap (x68+1))),(8,nP g48 0),(7,nI x11),(6,nS g85 L10 c22),(4,nB w)]) (w':=w132) (by kernel_rfl) ?_
     intro a138 hF137; clear hF136
     refine wpList_nil ?_
     exact thenN ⟨k69,Nat.lt_succ_self _,x62,x63,x64,atI L10 (IntKind.i64.wrap (3+x68)),x66,x67,IntKind.i64.wrap (x68+1),hF137,hS134,hm129⟩
    have hm139:=ifNot hc128 hm127; clear hm127
    cases hc140:(x68 == 4)
    case true =>
     have hm141:=ifYes hc140 hm139; clear hm139
     refine ev_one (nP g48 7) w71 hF90 (by kernel_rfl) rfl (by kernel_rfl) (run_idxA (q:=4) rfl rfl rfl rfl (congrArg (Value.int .i64) (eq_of_beq hc140)) (by decide) (by decide) (by kernel_rfl) _) (l':=[(48,nP g48 7),(47,nP g48 3),(46,nI (atI L10 (IntKind.i64.wrap (3+x68)))),(45,nP g85 ((IntKind.i64.wrap (3+x68)).toNat)),(44,nI (IntKind.i64.wrap (3+x68))),(43,nI x68),(42,nS g85 L10 c22),(41,nI x68),(9,nI x68),(8,nP g48 0),(7,nI x11),(6,nS g85 L10 c22),(4,nB w)]) (by kernel_rfl) ?_
     intro a143 hF142; clear hF90
     refine ev_store (nI (atI L10 (IntKind.i64.wrap (3+x68)))) #[nI x49,nI x50,nI x51,nI x62,nI x63,nI x64,nI x65,nI (atI L10 (IntKind.i64.wrap (3+x68))),nI x67,nI x52] hF142 (by kernel_rfl) rfl rfl rfl rfl (by kernel_rfl) hS73 (by kernel_rfl) (by kernel_rfl) (by kernel_rfl) (l':=[(48,nP g48 7),(47,nP g48 3),(46,nI (atI L10 (IntKind.i64.wrap (3+x68)))),(45,nP g85 ((IntKind.i64.wrap (3+x68)).toNat)),(44,nI (IntKind.i64.wrap (3+x68))),(43,nI x68),(42,nS g85 L10 c22),(41,nI x68),(9,nI x68),(8,nP g48 0),(7,nI x11),(6,nS g85 L10 c22),(4,nB w)]) (by kernel_rfl) ?_
     intro w144 a145 hS146 hF147; clear hF142 hS73
     refine wpList_nil ?_
     have hF148:=hF147.keep [4,6,7,8,9]
     clear hF147
     refine blockN ?_
     refine thenN (wp_region_lit ?_)
     refine ev_runK 3 hF148 [4,6,7,8,9] (l':=[(9,nI (IntKind.i64.wrap (x68+1))),(8,nP g48 0),(7,nI x11),(6,nS g85 L10 c22),(4,nB w)]) (w':=w144) (by kernel_rfl) ?_
     intro a150 hF149; clear hF148
     refine wpList_nil ?_
     exact thenN ⟨k69,Nat.lt_succ_self _,x62,x63,x64,x65,atI L10 (IntKind.i64.wrap (3+x68)),x67,IntKind.i64.wrap (x68+1),hF149,hS146,hm141⟩
    have hm151:=ifNot hc140 hm139; clear hm139
    cases hc152:(x68 == 5)
    case true =>
     have hm153:=ifYes hc152 hm151; clear hm151
     refine ev_one (nP g48 8) w71 hF90 (by kernel_rfl) rfl (by kernel_rfl) (run_idxA (q:=5) rfl rfl rfl rfl (congrArg (Value.int .i64) (eq_of_beq hc152)) (by decide) (by decide) (by kernel_rfl) _) (l':=[(48,nP g48 8),(47,nP g48 3),(46,nI (atI L10 (IntKind.i64.wrap (3+x68)))),(45,nP g85 ((IntKind.i64.wrap (3+x68)).toNat)),(44,nI (IntKind.i64.wrap (3+x68))),(43,nI x68),(42,nS g85 L10 c22),(41,nI x68),(9,nI x68),(8,nP g48 0),(7,nI x11),(6,nS g85 L10 c22),(4,nB w)]) (by kernel_rfl) ?_
     intro a155 hF154; clear hF90
     refine ev_store (nI (atI L10 (IntKind.i64.wrap (3+x68)))) #[nI x49,nI x50,nI x51,nI x62,nI x63,nI x64,nI x65,nI x66,nI (atI L10 (IntKind.i64.wrap (3+x68))),nI x52] hF154 (by kernel_rfl) rfl rfl rfl rfl (by kernel_rfl) hS73 (by kernel_rfl) (by kernel_rfl) (by kernel_rfl) (l':=[(48,nP g48 8),(47,nP g48 3),(46,nI (atI L10 (IntKind.i64.wrap (3+x68)))),(45,nP g85 ((IntKind.i64.wrap (3+x68)).toNat)),(44,nI (IntKind.i64.wrap (3+x68))),(43,nI x68),(42,nS g85 L10 c22),(41,nI x68),(9,nI x68),(8,nP g48 0),(7,nI x11),(6,nS g85 L10 c22),(4,nB w)]) (by kernel_rfl) ?_
     intro w156 a157 hS158 hF159; clear hF154 hS73
     refine wpList_nil ?_
     have hF160:=hF159.keep [4,6,7,8,9]
     clear hF159
     refine blockN ?_
     refine thenN (wp_region_lit ?_)
     refine ev_runK 3 hF160 [4,6,7,8,9] (l':=[(9,nI (IntKind.i64.wrap (x68+1))),(8,nP g48 0),(7,nI x11),(6,nS g85 L10 c22),(4,nB w)]) (w':=w156) (by kernel_rfl) ?_
     intro a162 hF161; clear hF160
     refine wpList_nil ?_
     exact thenN ⟨k69,Nat.lt_succ_self _,x62,x63,x64,x65,x66,atI L10 (IntKind.i64.wrap (3+x68)),IntKind.i64.wrap (x68+1),hF161,hS158,hm153⟩
    have hm163:=ifNot hc152 hm151; clear hm151
    exact absurd hm163 (by simp)
   rw [hc78] at hF76
   have hm164:=ifNot hc78 hm75; clear hm75
   refine ev_condF hF76 rfl rfl ?_
   refine wp_exit ?_
   refine thenE ?_
   refine thenE ?_
   refine blockE ?_
   refine thenN (wp_seq (wp_region_lit ?_))
   refine ev_one (.agg #[nI x49,nI x50,nI x51,nI x62,nI x63,nI x64,nI x65,nI x66,nI x67,nI x52]) w71 hF76 (by kernel_rfl) rfl (by kernel_rfl) (run_loadV rfl rfl (run_loadA (cs:=[nI x49,nI x50,nI x51,nI x62,nI x63,nI x64,nI x65,nI x66,nI x67,nI x52]) rfl rfl (by kernel_rfl) (blk_cells hS73 0 rfl rfl))) (l':=[(49,.agg #[nI x49,nI x50,nI x51,nI x62,nI x63,nI x64,nI x65,nI x66,nI x67,nI x52]),(38,.bool false),(9,nI x68),(8,nP g48 0),(7,nI x11),(6,.slice p21 L10.length c22),(4,nB w)]) (by kernel_rfl) ?_
   intro a166 hF165; clear hF76
   refine ev_runs 1 hF165 (l':=[(50,nI x11),(49,.agg #[nI x49,nI x50,nI x51,nI x62,nI x63,nI x64,nI x65,nI x66,nI x67,nI x52]),(38,.bool false),(9,nI x68),(8,nP g48 0),(7,nI x11),(6,.slice p21 L10.length c22),(4,nB w)]) (w':=w71) (by kernel_rfl) ?_
   intro a168 hF167; clear hF165
   have hS169:=hS73.pick3
   clear hS73
   refine ev_store (.agg #[nI x49,nI x50,nI x51,nI x62,nI x63,nI x64,nI x65,nI x66,nI x67,nI x52]) #[nI x49,nI x50,nI x51,nI x62,nI x63,nI x64,nI x65,nI x66,nI x67,nI x52] hF167 (by kernel_rfl) rfl rfl rfl rfl (by kernel_rfl) hS169 (by kernel_rfl) (by kernel_rfl) (by kernel_rfl) (l':=[(50,nI x11),(49,.agg #[nI x49,nI x50,nI x51,nI x62,nI x63,nI x64,nI x65,nI x66,nI x67,nI x52]),(38,.bool false),(9,nI x68),(8,nP g48 0),(7,nI x11),(6,.slice p21 L10.length c22),(4,nB w)]) (by kernel_rfl) ?_
   intro w170 a171 hS172 hF173; clear hF167 hS169
   refine ev_runK 1 hF173 [4,5] (l':=[(5,nI x11),(4,nB w)]) (w':=w170) (by kernel_rfl) ?_
   intro a175 hF174; clear hF173
   refine wpList_nil ?_
   have hS176:=hS172.pick1.drop.pick1.drop
   clear hS172
   refine thenN ?_
   refine wp_ret ?_
   have hS177:=hS176.pick1
   clear hS176
   simp only [Option.some.injEq,Prod.mk.injEq] at hm164
   obtain ⟨rfl,rfl,rfl⟩:=hm164
   refine ev_retC hF174 _ [.agg #[nI x49,nI x50,nI x51,nI x62,nI x63,nI x64,nI x65,nI x66,nI x67,nI x52],nI x11] (.tuple #[.agg #[nI x49,nI x50,nI x51,nI x62,nI x63,nI x64,nI x65,nI x66,nI x67,nI x52],nI x11]) rfl ⟨⟨rfl,_,rfl,(run_loadA (cs:=[nI x49,nI x50,nI x51,nI x62,nI x63,nI x64,nI x65,nI x66,nI x67,nI x52]) rfl rfl (by kernel_rfl) (blk_cells hS177 1 rfl rfl))⟩,⟨rfl,rfl⟩,trivial⟩ rfl ?_
   have hS181:=hS177.pick1.drop
   clear hS177
   exact ⟨rfl,hS181⟩
 · skip
   obtain ⟨hc182,hm183⟩:=ifTE hm46; clear hm46
   obtain ⟨g184,rfl⟩:=hp23.resolve_left (by have:=inR_spec hc182; omega)
   obtain ⟨hc185,hm186⟩:=ifTE hm183; clear hm183
   obtain ⟨hc187,hm188⟩:=ifTE hm186; clear hm186
   obtain ⟨hc189,hm190⟩:=ifTE hm188; clear hm188
   have hS191:=hS17.pick1
   clear hS17
   have hS192:=hS191.drew; clear hS191
   refine any_start (fun wS=>∃ qs,St w0 F0 (RowP (nS g184 L10 c22) L10::qs) wS) 19 #[false,false,false,false,false,false,false,false,false,false,false,false,false,false,false,false,false,false,false] (by kernel_rfl) (by kernel_rfl) (by kernel_rfl) ?_
   refine any_many 12 [(0,some (nS g184 L10 c22)),(1,some (nP g184 ((0:Int).toNat))),(2,some (nI (atI L10 (0:Int)))),(4,some (nS g184 L10 c22)),(5,some (nP g184 ((1:Int).toNat))),(6,some (nI (atI L10 (1:Int)))),(8,some (nS g184 L10 c22)),(9,some (nP g184 ((2:Int).toNat))),(10,some (nI (atI L10 (2:Int)))),(12,some (nS g184 L10 c22)),(13,some (nP g184 ((9:Int).toNat))),(14,some (nI (atI L10 (9:Int))))] [4,6,7,8,22,23,26,27,30,31,34,35,36] #[true,true,true,false,true,true,true,false,true,true,true,false,true,true,true,false,false,false,false] (by rfl) hF47 (by kernel_rfl) (by kernel_rfl) (by exact ⟨fun wS hw=>by kernel_rfl,fun wS hw=>run_idx rfl rfl rfl rfl rfl (inR_spec hc182).1 (inR_spec hc182).2 _,fun wS hw=>run_load1 rfl rfl rfl (hw.elim fun qs hw=>hw.atI 0 rfl hc182),fun wS hw=>by kernel_rfl,fun wS hw=>run_idx rfl rfl rfl rfl rfl (inR_spec hc185).1 (inR_spec hc185).2 _,fun wS hw=>run_load1 rfl rfl rfl (hw.elim fun qs hw=>hw.atI 0 rfl hc185),fun wS hw=>by kernel_rfl,fun wS hw=>run_idx rfl rfl rfl rfl rfl (inR_spec hc187).1 (inR_spec hc187).2 _,fun wS hw=>run_load1 rfl rfl rfl (hw.elim fun qs hw=>hw.atI 0 rfl hc187),fun wS hw=>by kernel_rfl,fun wS hw=>run_idx rfl rfl rfl rfl rfl (inR_spec hc189).1 (inR_spec hc189).2 _,fun wS hw=>run_load1 rfl rfl rfl (hw.elim fun qs hw=>hw.atI 0 rfl hc189),trivial⟩) (fun _ _ _ _ _ h=>h) ⟨_,hS192⟩ (l':=[(34,nI (atI L10 (9:Int))),(30,nI (atI L10 (2:Int))),(26,nI (atI L10 (1:Int))),(22,nI (atI L10 (0:Int))),(7,nI x11),(6,nS g184 L10 c22),(4,nB w)]) (by kernel_rfl) ?_
   intro a194 hF193; clear hF47
   refine any_two 3 17 (by kernel_rfl) ?_ ?_
   · skip
     refine op_call 3 #[true,true,true,true,true,true,true,false,true,true,true,false,true,true,true,false,false,false,false] 122 #[nI (atI L10 (0:Int))] hF193 rfl rfl rfl (by kernel_rfl) rfl (by kernel_rfl) (fun w=>by kernel_rfl) (by kernel_rfl) ?_
     obtain ⟨x195,hx196,hm197⟩:=bind1E hm190; clear hm190
     refine (ref11_number.ok hS192 hx196).mono ?_
     rintro _ w198 ⟨rfl,hS200⟩; clear hS192
     refine ⟨⟨_,hS200⟩,?_⟩
     intro a199 hF201; clear hF193
     refine any_two 7 17 (by kernel_rfl) ?_ ?_
     · skip
       refine op_call 7 #[true,true,true,true,true,true,true,true,true,true,true,false,true,true,true,false,false,false,false] 122 #[nI (atI L10 (1:Int))] hF201 rfl rfl rfl (by kernel_rfl) rfl (by kernel_rfl) (fun w=>by kernel_rfl) (by kernel_rfl) ?_
       obtain ⟨x202,hx203,hm204⟩:=bind1E hm197; clear hm197
       refine (ref11_number.ok hS200 hx203).mono ?_
       rintro _ w205 ⟨rfl,hS207⟩; clear hS200
       refine ⟨⟨_,hS207⟩,?_⟩
       intro a206 hF208; clear hF201
       refine any_two 11 17 (by kernel_rfl) ?_ ?_
       · skip
         refine op_call 11 #[true,true,true,true,true,true,true,true,true,true,true,true,true,true,true,false,false,false,false] 122 #[nI (atI L10 (2:Int))] hF208 rfl rfl rfl (by kernel_rfl) rfl (by kernel_rfl) (fun w=>by kernel_rfl) (by kernel_rfl) ?_
         obtain ⟨x209,hx210,hm211⟩:=bind1E hm204; clear hm204
         refine (ref11_number.ok hS207 hx210).mono ?_
         rintro _ w212 ⟨rfl,hS214⟩; clear hS207
         refine ⟨⟨_,hS214⟩,?_⟩
         intro a213 hF215; clear hF208
         refine any_two 15 17 (by kernel_rfl) ?_ ?_
         · skip
           refine op_call 15 #[true,true,true,true,true,true,true,true,true,true,true,true,true,true,true,true,false,false,false] 123 #[nI (atI L10 (9:Int))] hF215 rfl rfl rfl (by kernel_rfl) rfl (by kernel_rfl) (fun w=>by kernel_rfl) (by kernel_rfl) ?_
           obtain ⟨x216,hx217,hm218⟩:=bind1E hm211; clear hm211
           refine (ref11_place.ok hS214 hx217).mono ?_
           rintro _ w219 ⟨rfl,hS221⟩; clear hS214
           refine ⟨⟨_,hS221⟩,?_⟩
           intro a220 hF222; clear hF215
           refine any_many 1 [(16,some (.agg #[nI x195,nI x202,nI x209,nI 0,nI 0,nI 0,nI 0,nI 0,nI 0,nI x216]))] [4,6,7,8,36] #[true,true,true,true,true,true,true,true,true,true,true,true,true,true,true,true,true,false,false] (by rfl) hF222 (by kernel_rfl) (by kernel_rfl) (by exact ⟨fun wS hw=>by kernel_rfl,trivial⟩) (fun _ _ _ _ _ h=>h) ⟨_,hS221⟩ (l':=[(36,.agg #[nI x195,nI x202,nI x209,nI 0,nI 0,nI 0,nI 0,nI 0,nI 0,nI x216]),(7,nI x11),(6,nS g184 L10 c22),(4,nB w)]) (by kernel_rfl) ?_
           intro a224 hF223; clear hF222
           refine any_one 17 (by kernel_rfl) ?_
           have hS225:St w0 F0 (BlkP (w219.heap.size) 70 #[nI 0,nI 0,nI 0,nI 0,nI 0,nI 0,nI 0,nI 0,nI 0,nI 0]::RowP (nS g184 L10 c22) L10::RHeapP b0 ab0 sb0 g0 cb0 s12::BlkP (w.heap.size) 70 #[nI 0,nI 0,nI 0,nI 0,nI 0,nI 0,nI 0,nI 0,nI 0,nI 0]::ps) (w219.alloc (.cells #[nI 0,nI 0,nI 0,nI 0,nI 0,nI 0,nI 0,nI 0,nI 0,nI 0] 70)):=St.new hS221 #[nI 0,nI 0,nI 0,nI 0,nI 0,nI 0,nI 0,nI 0,nI 0,nI 0] 70
           clear hS221
           refine op_step 17 #[true,true,true,true,true,true,true,true,true,true,true,true,true,true,true,true,true,true,false] (nB w219) (w219.alloc (.cells #[nI 0,nI 0,nI 0,nI 0,nI 0,nI 0,nI 0,nI 0,nI 0,nI 0] 70)) hF223 rfl (by kernel_rfl) rfl (by kernel_rfl) (by kernel_rfl) (l':=[(8,nB w219),(36,.agg #[nI x195,nI x202,nI x209,nI 0,nI 0,nI 0,nI 0,nI 0,nI 0,nI x216]),(7,nI x11),(6,nS g184 L10 c22),(4,nB w)]) (by kernel_rfl) ⟨_,hS225.pick1⟩ (by kernel_rfl) ?_
           intro a227 hF226; clear hF223
           refine any_one 18 (by kernel_rfl) ?_
           refine op_store 18 #[true,true,true,true,true,true,true,true,true,true,true,true,true,true,true,true,true,true,true] (.agg #[nI x195,nI x202,nI x209,nI 0,nI 0,nI 0,nI 0,nI 0,nI 0,nI x216]) #[nI x195,nI x202,nI x209,nI 0,nI 0,nI 0,nI 0,nI 0,nI 0,nI x216] hF226 rfl (by kernel_rfl) rfl rfl rfl rfl (by kernel_rfl) hS225 (by kernel_rfl) (by kernel_rfl) (by kernel_rfl) (l':=[(8,nB w219),(36,.agg #[nI x195,nI x202,nI x209,nI 0,nI 0,nI 0,nI 0,nI 0,nI 0,nI x216]),(7,nI x11),(6,nS g184 L10 c22),(4,nB w)]) (by kernel_rfl) (by kernel_rfl) ?_
           intro w228 a229 hS230 hF231; clear hF226 hS225
           refine ⟨⟨_,hS230.pick1⟩,?_⟩
           refine any_done (by kernel_rfl) ?_
           have hF232:=hF231.keep [4,6,7,8]
           clear hF231
           exact thenN ⟨(w219.heap.size),x195,x202,x209,x216,hF232,hS230,hm218⟩
         · skip
           have hS233:St w0 F0 (BlkP (w212.heap.size) 70 #[nI 0,nI 0,nI 0,nI 0,nI 0,nI 0,nI 0,nI 0,nI 0,nI 0]::RowP (nS g184 L10 c22) L10::RHeapP b0 ab0 sb0 g0 cb0 s12::BlkP (w.heap.size) 70 #[nI 0,nI 0,nI 0,nI 0,nI 0,nI 0,nI 0,nI 0,nI 0,nI 0]::ps) (w212.alloc (.cells #[nI 0,nI 0,nI 0,nI 0,nI 0,nI 0,nI 0,nI 0,nI 0,nI 0] 70)):=St.new hS214 #[nI 0,nI 0,nI 0,nI 0,nI 0,nI 0,nI 0,nI 0,nI 0,nI 0] 70
           clear hS214
           refine op_step 17 #[true,true,true,true,true,true,true,true,true,true,true,true,true,true,true,false,false,true,false] (nB w212) (w212.alloc (.cells #[nI 0,nI 0,nI 0,nI 0,nI 0,nI 0,nI 0,nI 0,nI 0,nI 0] 70)) hF215 rfl (by kernel_rfl) rfl (by kernel_rfl) (by kernel_rfl) (l':=[(8,nB w212),(31,nI x209),(27,nI x202),(23,nI x195),(34,nI (atI L10 (9:Int))),(30,nI (atI L10 (2:Int))),(26,nI (atI L10 (1:Int))),(22,nI (atI L10 (0:Int))),(7,nI x11),(6,nS g184 L10 c22),(4,nB w)]) (by kernel_rfl) ⟨_,hS233.pick1⟩ (by kernel_rfl) ?_
           intro a235 hF234; clear hF215
           refine any_call 15 #[true,true,true,true,true,true,true,true,true,true,true,true,true,true,true,true,false,true,false] 123 #[nI (atI L10 (9:Int))] hF234 rfl (by kernel_rfl) rfl rfl (by kernel_rfl) rfl (by kernel_rfl) (fun w=>by kernel_rfl) (by kernel_rfl) ?_
           obtain ⟨x236,hx237,hm238⟩:=bind1E hm211; clear hm211
           refine (ref11_place.ok hS233 hx237).mono ?_
           rintro _ w239 ⟨rfl,hS241⟩; clear hS233
           refine ⟨⟨_,hS241.pick1⟩,?_⟩
           intro a240 hF242; clear hF234
           refine any_many 1 [(16,some (.agg #[nI x195,nI x202,nI x209,nI 0,nI 0,nI 0,nI 0,nI 0,nI 0,nI x236]))] [4,6,7,8,36] #[true,true,true,true,true,true,true,true,true,true,true,true,true,true,true,true,true,true,false] (by rfl) hF242 (by kernel_rfl) (by kernel_rfl) (by exact ⟨fun wS hw=>by kernel_rfl,trivial⟩) (fun _ _ _ _ _ h=>h) ⟨_,hS241.pick1⟩ (l':=[(36,.agg #[nI x195,nI x202,nI x209,nI 0,nI 0,nI 0,nI 0,nI 0,nI 0,nI x236]),(8,nB w212),(7,nI x11),(6,nS g184 L10 c22),(4,nB w)]) (by kernel_rfl) ?_
           intro a244 hF243; clear hF242
           refine any_one 18 (by kernel_rfl) ?_
           refine op_store 18 #[true,true,true,true,true,true,true,true,true,true,true,true,true,true,true,true,true,true,true] (.agg #[nI x195,nI x202,nI x209,nI 0,nI 0,nI 0,nI 0,nI 0,nI 0,nI x236]) #[nI x195,nI x202,nI x209,nI 0,nI 0,nI 0,nI 0,nI 0,nI 0,nI x236] hF243 rfl (by kernel_rfl) rfl rfl rfl rfl (by kernel_rfl) hS241 (by kernel_rfl) (by kernel_rfl) (by kernel_rfl) (l':=[(36,.agg #[nI x195,nI x202,nI x209,nI 0,nI 0,nI 0,nI 0,nI 0,nI 0,nI x236]),(8,nB w212),(7,nI x11),(6,nS g184 L10 c22),(4,nB w)]) (by kernel_rfl) (by kernel_rfl) ?_
           intro w245 a246 hS247 hF248; clear hF243 hS241
           refine ⟨⟨_,hS247.pick1⟩,?_⟩
           refine any_done (by kernel_rfl) ?_
           have hF249:=hF248.keep [4,6,7,8]
           clear hF248
           exact thenN ⟨(w212.heap.size),x195,x202,x209,x236,hF249,hS247,hm238⟩
       · skip
         have hS250:St w0 F0 (BlkP (w205.heap.size) 70 #[nI 0,nI 0,nI 0,nI 0,nI 0,nI 0,nI 0,nI 0,nI 0,nI 0]::RowP (nS g184 L10 c22) L10::RHeapP b0 ab0 sb0 g0 cb0 s12::BlkP (w.heap.size) 70 #[nI 0,nI 0,nI 0,nI 0,nI 0,nI 0,nI 0,nI 0,nI 0,nI 0]::ps) (w205.alloc (.cells #[nI 0,nI 0,nI 0,nI 0,nI 0,nI 0,nI 0,nI 0,nI 0,nI 0] 70)):=St.new hS207 #[nI 0,nI 0,nI 0,nI 0,nI 0,nI 0,nI 0,nI 0,nI 0,nI 0] 70
         clear hS207
         refine op_step 17 #[true,true,true,true,true,true,true,true,true,true,true,false,true,true,true,false,false,true,false] (nB w205) (w205.alloc (.cells #[nI 0,nI 0,nI 0,nI 0,nI 0,nI 0,nI 0,nI 0,nI 0,nI 0] 70)) hF208 rfl (by kernel_rfl) rfl (by kernel_rfl) (by kernel_rfl) (l':=[(8,nB w205),(27,nI x202),(23,nI x195),(34,nI (atI L10 (9:Int))),(30,nI (atI L10 (2:Int))),(26,nI (atI L10 (1:Int))),(22,nI (atI L10 (0:Int))),(7,nI x11),(6,nS g184 L10 c22),(4,nB w)]) (by kernel_rfl) ⟨_,hS250.pick1⟩ (by kernel_rfl) ?_
         intro a252 hF251; clear hF208
         refine any_call 11 #[true,true,true,true,true,true,true,true,true,true,true,true,true,true,true,false,false,true,false] 122 #[nI (atI L10 (2:Int))] hF251 rfl (by kernel_rfl) rfl rfl (by kernel_rfl) rfl (by kernel_rfl) (fun w=>by kernel_rfl) (by kernel_rfl) ?_
         obtain ⟨x253,hx254,hm255⟩:=bind1E hm204; clear hm204
         refine (ref11_number.ok hS250 hx254).mono ?_
         rintro _ w256 ⟨rfl,hS258⟩; clear hS250
         refine ⟨⟨_,hS258.pick1⟩,?_⟩
         intro a257 hF259; clear hF251
         refine any_call 15 #[true,true,true,true,true,true,true,true,true,true,true,true,true,true,true,true,false,true,false] 123 #[nI (atI L10 (9:Int))] hF259 rfl (by kernel_rfl) rfl rfl (by kernel_rfl) rfl (by kernel_rfl) (fun w=>by kernel_rfl) (by kernel_rfl) ?_
         obtain ⟨x260,hx261,hm262⟩:=bind1E hm255; clear hm255
         refine (ref11_place.ok hS258 hx261).mono ?_
         rintro _ w263 ⟨rfl,hS265⟩; clear hS258
         refine ⟨⟨_,hS265.pick1⟩,?_⟩
         intro a264 hF266; clear hF259
         refine any_many 1 [(16,some (.agg #[nI x195,nI x202,nI x253,nI 0,nI 0,nI 0,nI 0,nI 0,nI 0,nI x260]))] [4,6,7,8,36] #[true,true,true,true,true,true,true,true,true,true,true,true,true,true,true,true,true,true,false] (by rfl) hF266 (by kernel_rfl) (by kernel_rfl) (by exact ⟨fun wS hw=>by kernel_rfl,trivial⟩) (fun _ _ _ _ _ h=>h) ⟨_,hS265.pick1⟩ (l':=[(36,.agg #[nI x195,nI x202,nI x253,nI 0,nI 0,nI 0,nI 0,nI 0,nI 0,nI x260]),(8,nB w205),(7,nI x11),(6,nS g184 L10 c22),(4,nB w)]) (by kernel_rfl) ?_
         intro a268 hF267; clear hF266
         refine any_one 18 (by kernel_rfl) ?_
         refine op_store 18 #[true,true,true,true,true,true,true,true,true,true,true,true,true,true,true,true,true,true,true] (.agg #[nI x195,nI x202,nI x253,nI 0,nI 0,nI 0,nI 0,nI 0,nI 0,nI x260]) #[nI x195,nI x202,nI x253,nI 0,nI 0,nI 0,nI 0,nI 0,nI 0,nI x260] hF267 rfl (by kernel_rfl) rfl rfl rfl rfl (by kernel_rfl) hS265 (by kernel_rfl) (by kernel_rfl) (by kernel_rfl) (l':=[(36,.agg #[nI x195,nI x202,nI x253,nI 0,nI 0,nI 0,nI 0,nI 0,nI 0,nI x260]),(8,nB w205),(7,nI x11),(6,nS g184 L10 c22),(4,nB w)]) (by kernel_rfl) (by kernel_rfl) ?_
         intro w269 a270 hS271 hF272; clear hF267 hS265
         refine ⟨⟨_,hS271.pick1⟩,?_⟩
         refine any_done (by kernel_rfl) ?_
         have hF273:=hF272.keep [4,6,7,8]
         clear hF272
         exact thenN ⟨(w205.heap.size),x195,x202,x253,x260,hF273,hS271,hm262⟩
     · skip
       have hS274:St w0 F0 (BlkP (w198.heap.size) 70 #[nI 0,nI 0,nI 0,nI 0,nI 0,nI 0,nI 0,nI 0,nI 0,nI 0]::RowP (nS g184 L10 c22) L10::RHeapP b0 ab0 sb0 g0 cb0 s12::BlkP (w.heap.size) 70 #[nI 0,nI 0,nI 0,nI 0,nI 0,nI 0,nI 0,nI 0,nI 0,nI 0]::ps) (w198.alloc (.cells #[nI 0,nI 0,nI 0,nI 0,nI 0,nI 0,nI 0,nI 0,nI 0,nI 0] 70)):=St.new hS200 #[nI 0,nI 0,nI 0,nI 0,nI 0,nI 0,nI 0,nI 0,nI 0,nI 0] 70
       clear hS200
       refine op_step 17 #[true,true,true,true,true,true,true,false,true,true,true,false,true,true,true,false,false,true,false] (nB w198) (w198.alloc (.cells #[nI 0,nI 0,nI 0,nI 0,nI 0,nI 0,nI 0,nI 0,nI 0,nI 0] 70)) hF201 rfl (by kernel_rfl) rfl (by kernel_rfl) (by kernel_rfl) (l':=[(8,nB w198),(23,nI x195),(34,nI (atI L10 (9:Int))),(30,nI (atI L10 (2:Int))),(26,nI (atI L10 (1:Int))),(22,nI (atI L10 (0:Int))),(7,nI x11),(6,nS g184 L10 c22),(4,nB w)]) (by kernel_rfl) ⟨_,hS274.pick1⟩ (by kernel_rfl) ?_
       intro a276 hF275; clear hF201
       refine any_call 7 #[true,true,true,true,true,true,true,true,true,true,true,false,true,true,true,false,false,true,false] 122 #[nI (atI L10 (1:Int))] hF275 rfl (by kernel_rfl) rfl rfl (by kernel_rfl) rfl (by kernel_rfl) (fun w=>by kernel_rfl) (by kernel_rfl) ?_
       obtain ⟨x277,hx278,hm279⟩:=bind1E hm197; clear hm197
       refine (ref11_number.ok hS274 hx278).mono ?_
       rintro _ w280 ⟨rfl,hS282⟩; clear hS274
       refine ⟨⟨_,hS282.pick1⟩,?_⟩
       intro a281 hF283; clear hF275
       refine any_call 11 #[true,true,true,true,true,true,true,true,true,true,true,true,true,true,true,false,false,true,false] 122 #[nI (atI L10 (2:Int))] hF283 rfl (by kernel_rfl) rfl rfl (by kernel_rfl) rfl (by kernel_rfl) (fun w=>by kernel_rfl) (by kernel_rfl) ?_
       obtain ⟨x284,hx285,hm286⟩:=bind1E hm279; clear hm279
       refine (ref11_number.ok hS282 hx285).mono ?_
       rintro _ w287 ⟨rfl,hS289⟩; clear hS282
       refine ⟨⟨_,hS289.pick1⟩,?_⟩
       intro a288 hF290; clear hF283
       refine any_call 15 #[true,true,true,true,true,true,true,true,true,true,true,true,true,true,true,true,false,true,false] 123 #[nI (atI L10 (9:Int))] hF290 rfl (by kernel_rfl) rfl rfl (by kernel_rfl) rfl (by kernel_rfl) (fun w=>by kernel_rfl) (by kernel_rfl) ?_
       obtain ⟨x291,hx292,hm293⟩:=bind1E hm286; clear hm286
       refine (ref11_place.ok hS289 hx292).mono ?_
       rintro _ w294 ⟨rfl,hS296⟩; clear hS289
       refine ⟨⟨_,hS296.pick1⟩,?_⟩
       intro a295 hF297; clear hF290
       refine any_many 1 [(16,some (.agg #[nI x195,nI x277,nI x284,nI 0,nI 0,nI 0,nI 0,nI 0,nI 0,nI x291]))] [4,6,7,8,36] #[true,true,true,true,true,true,true,true,true,true,true,true,true,true,true,true,true,true,false] (by rfl) hF297 (by kernel_rfl) (by kernel_rfl) (by exact ⟨fun wS hw=>by kernel_rfl,trivial⟩) (fun _ _ _ _ _ h=>h) ⟨_,hS296.pick1⟩ (l':=[(36,.agg #[nI x195,nI x277,nI x284,nI 0,nI 0,nI 0,nI 0,nI 0,nI 0,nI x291]),(8,nB w198),(7,nI x11),(6,nS g184 L10 c22),(4,nB w)]) (by kernel_rfl) ?_
       intro a299 hF298; clear hF297
       refine any_one 18 (by kernel_rfl) ?_
       refine op_store 18 #[true,true,true,true,true,true,true,true,true,true,true,true,true,true,true,true,true,true,true] (.agg #[nI x195,nI x277,nI x284,nI 0,nI 0,nI 0,nI 0,nI 0,nI 0,nI x291]) #[nI x195,nI x277,nI x284,nI 0,nI 0,nI 0,nI 0,nI 0,nI 0,nI x291] hF298 rfl (by kernel_rfl) rfl rfl rfl rfl (by kernel_rfl) hS296 (by kernel_rfl) (by kernel_rfl) (by kernel_rfl) (l':=[(36,.agg #[nI x195,nI x277,nI x284,nI 0,nI 0,nI 0,nI 0,nI 0,nI 0,nI x291]),(8,nB w198),(7,nI x11),(6,nS g184 L10 c22),(4,nB w)]) (by kernel_rfl) (by kernel_rfl) ?_
       intro w300 a301 hS302 hF303; clear hF298 hS296
       refine ⟨⟨_,hS302.pick1⟩,?_⟩
       refine any_done (by kernel_rfl) ?_
       have hF304:=hF303.keep [4,6,7,8]
       clear hF303
       exact thenN ⟨(w198.heap.size),x195,x277,x284,x291,hF304,hS302,hm293⟩
   · skip
     have hS305:St w0 F0 (BlkP ((w15.drew).heap.size) 70 #[nI 0,nI 0,nI 0,nI 0,nI 0,nI 0,nI 0,nI 0,nI 0,nI 0]::RowP (nS g184 L10 c22) L10::RHeapP b0 ab0 sb0 g0 cb0 s12::BlkP (w.heap.size) 70 #[nI 0,nI 0,nI 0,nI 0,nI 0,nI 0,nI 0,nI 0,nI 0,nI 0]::ps) ((w15.drew).alloc (.cells #[nI 0,nI 0,nI 0,nI 0,nI 0,nI 0,nI 0,nI 0,nI 0,nI 0] 70)):=St.new hS192 #[nI 0,nI 0,nI 0,nI 0,nI 0,nI 0,nI 0,nI 0,nI 0,nI 0] 70
     clear hS192
     refine op_step 17 #[true,true,true,false,true,true,true,false,true,true,true,false,true,true,true,false,false,true,false] (nB (w15.drew)) ((w15.drew).alloc (.cells #[nI 0,nI 0,nI 0,nI 0,nI 0,nI 0,nI 0,nI 0,nI 0,nI 0] 70)) hF193 rfl (by kernel_rfl) rfl (by kernel_rfl) (by kernel_rfl) (l':=[(8,nB (w15.drew)),(34,nI (atI L10 (9:Int))),(30,nI (atI L10 (2:Int))),(26,nI (atI L10 (1:Int))),(22,nI (atI L10 (0:Int))),(7,nI x11),(6,nS g184 L10 c22),(4,nB w)]) (by kernel_rfl) ⟨_,hS305.pick1⟩ (by kernel_rfl) ?_
     intro a307 hF306; clear hF193
     refine any_call 3 #[true,true,true,true,true,true,true,false,true,true,true,false,true,true,true,false,false,true,false] 122 #[nI (atI L10 (0:Int))] hF306 rfl (by kernel_rfl) rfl rfl (by kernel_rfl) rfl (by kernel_rfl) (fun w=>by kernel_rfl) (by kernel_rfl) ?_
     obtain ⟨x308,hx309,hm310⟩:=bind1E hm190; clear hm190
     refine (ref11_number.ok hS305 hx309).mono ?_
     rintro _ w311 ⟨rfl,hS313⟩; clear hS305
     refine ⟨⟨_,hS313.pick1⟩,?_⟩
     intro a312 hF314; clear hF306
     refine any_call 7 #[true,true,true,true,true,true,true,true,true,true,true,false,true,true,true,false,false,true,false] 122 #[nI (atI L10 (1:Int))] hF314 rfl (by kernel_rfl) rfl rfl (by kernel_rfl) rfl (by kernel_rfl) (fun w=>by kernel_rfl) (by kernel_rfl) ?_
     obtain ⟨x315,hx316,hm317⟩:=bind1E hm310; clear hm310
     refine (ref11_number.ok hS313 hx316).mono ?_
     rintro _ w318 ⟨rfl,hS320⟩; clear hS313
     refine ⟨⟨_,hS320.pick1⟩,?_⟩
     intro a319 hF321; clear hF314
     refine any_call 11 #[true,true,true,true,true,true,true,true,true,true,true,true,true,true,true,false,false,true,false] 122 #[nI (atI L10 (2:Int))] hF321 rfl (by kernel_rfl) rfl rfl (by kernel_rfl) rfl (by kernel_rfl) (fun w=>by kernel_rfl) (by kernel_rfl) ?_
     obtain ⟨x322,hx323,hm324⟩:=bind1E hm317; clear hm317
     refine (ref11_number.ok hS320 hx323).mono ?_
     rintro _ w325 ⟨rfl,hS327⟩; clear hS320
     refine ⟨⟨_,hS327.pick1⟩,?_⟩
     intro a326 hF328; clear hF321
     refine any_call 15 #[true,true,true,true,true,true,true,true,true,true,true,true,true,true,true,true,false,true,false] 123 #[nI (atI L10 (9:Int))] hF328 rfl (by kernel_rfl) rfl rfl (by kernel_rfl) rfl (by kernel_rfl) (fun w=>by kernel_rfl) (by kernel_rfl) ?_
     obtain ⟨x329,hx330,hm331⟩:=bind1E hm324; clear hm324
     refine (ref11_place.ok hS327 hx330).mono ?_
     rintro _ w332 ⟨rfl,hS334⟩; clear hS327
     refine ⟨⟨_,hS334.pick1⟩,?_⟩
     intro a333 hF335; clear hF328
     refine any_many 1 [(16,some (.agg #[nI x308,nI x315,nI x322,nI 0,nI 0,nI 0,nI 0,nI 0,nI 0,nI x329]))] [4,6,7,8,36] #[true,true,true,true,true,true,true,true,true,true,true,true,true,true,true,true,true,true,false] (by rfl) hF335 (by kernel_rfl) (by kernel_rfl) (by exact ⟨fun wS hw=>by kernel_rfl,trivial⟩) (fun _ _ _ _ _ h=>h) ⟨_,hS334.pick1⟩ (l':=[(36,.agg #[nI x308,nI x315,nI x322,nI 0,nI 0,nI 0,nI 0,nI 0,nI 0,nI x329]),(8,nB (w15.drew)),(7,nI x11),(6,nS g184 L10 c22),(4,nB w)]) (by kernel_rfl) ?_
     intro a337 hF336; clear hF335
     refine any_one 18 (by kernel_rfl) ?_
     refine op_store 18 #[true,true,true,true,true,true,true,true,true,true,true,true,true,true,true,true,true,true,true] (.agg #[nI x308,nI x315,nI x322,nI 0,nI 0,nI 0,nI 0,nI 0,nI 0,nI x329]) #[nI x308,nI x315,nI x322,nI 0,nI 0,nI 0,nI 0,nI 0,nI 0,nI x329] hF336 rfl (by kernel_rfl) rfl rfl rfl rfl (by kernel_rfl) hS334 (by kernel_rfl) (by kernel_rfl) (by kernel_rfl) (l':=[(36,.agg #[nI x308,nI x315,nI x322,nI 0,nI 0,nI 0,nI 0,nI 0,nI 0,nI x329]),(8,nB (w15.drew)),(7,nI x11),(6,nS g184 L10 c22),(4,nB w)]) (by kernel_rfl) (by kernel_rfl) ?_
     intro w338 a339 hS340 hF341; clear hF336 hS334
     refine ⟨⟨_,hS340.pick1⟩,?_⟩
     refine any_done (by kernel_rfl) ?_
     have hF342:=hF341.keep [4,6,7,8]
     clear hF341
     exact thenN ⟨((w15.drew).heap.size),x308,x315,x322,x329,hF342,hS340,hm331⟩
def ref11_ends.m (k:Nat) (i0:Ch) (i1:Bool):Option (Int×Int):=(if (i1) then some (i0.sh,i0.st) else some (i0.th,i0.tt))
theorem ref11_ends.ok {w0 w:World} {F0:List Nat} {ps:List Piece} {k:Nat} {i0:Ch} {i1:Bool} {r0:Int} {r1:Int} (hS:St w0 F0 (ps) w) (hm:ref11_ends.m k i0 i1=some (r0,r1)) :
    Calls Tryz.prog 125 #[.agg #[nI (i0.cap),nI (i0.closed),nI (i0.count),nI (i0.start),nI (i0.buf),nI (i0.th),nI (i0.tt),nI (i0.sh),nI (i0.st)],.bool (i1)] w fun e w'=>e=.returned (.tuple #[.int .i64 r0,.int .i64 r1])∧St w0 F0 (ps) w':=by
 refine ev_enterL 15 [.agg #[nI (i0.cap),nI (i0.closed),nI (i0.count),nI (i0.start),nI (i0.buf),nI (i0.th),nI (i0.tt),nI (i0.sh),nI (i0.st)],.bool (i1)] Tryz.func125 rfl rfl (by simp) ?_
 intro a hF
 have hF0:Fr 15 a [(0,.agg #[nI (i0.cap),nI (i0.closed),nI (i0.count),nI (i0.start),nI (i0.buf),nI (i0.th),nI (i0.tt),nI (i0.sh),nI (i0.st)]),(1,.bool (i1))]:=hF; clear hF
 unfold ref11_ends.m at hm
 refine wp_seq (wp_region_lit ?_)
 refine ev_runs 1 hF0 (l':=[(2,nB w),(0,.agg #[nI (i0.cap),nI (i0.closed),nI (i0.count),nI (i0.start),nI (i0.buf),nI (i0.th),nI (i0.tt),nI (i0.sh),nI (i0.st)]),(1,.bool (i1))]) (w':=w.alloc (.cells #[nI (i0.cap),nI (i0.closed),nI (i0.count),nI (i0.start),nI (i0.buf),nI (i0.th),nI (i0.tt),nI (i0.sh),nI (i0.st)] 37)) (by kernel_rfl) ?_
 intro a2 hF1; clear hF0
 have hS4:St w0 F0 (BlkP (w.heap.size) 37 #[nI (i0.cap),nI (i0.closed),nI (i0.count),nI (i0.start),nI (i0.buf),nI (i0.th),nI (i0.tt),nI (i0.sh),nI (i0.st)]::ps) (w.alloc (.cells #[nI (i0.cap),nI (i0.closed),nI (i0.count),nI (i0.start),nI (i0.buf),nI (i0.th),nI (i0.tt),nI (i0.sh),nI (i0.st)] 37)):=St.new hS #[nI (i0.cap),nI (i0.closed),nI (i0.count),nI (i0.start),nI (i0.buf),nI (i0.th),nI (i0.tt),nI (i0.sh),nI (i0.st)] 37
 refine ev_runK 2 hF1 [1,2] (l':=[(2,nB w),(1,.bool (i1))]) (w':=w.alloc (.cells #[nI (i0.cap),nI (i0.closed),nI (i0.count),nI (i0.start),nI (i0.buf),nI (i0.th),nI (i0.tt),nI (i0.sh),nI (i0.st)] 37)) (by kernel_rfl) ?_
 intro a6 hF5; clear hF1
 refine wpList_nil (thenN (wp_seq (wp_seq (wp_region_lit ?_))))
 refine ev_runK 1 hF5 [2,6] (l':=[(6,.bool (i1)),(2,nB w)]) (w':=w.alloc (.cells #[nI (i0.cap),nI (i0.closed),nI (i0.count),nI (i0.start),nI (i0.buf),nI (i0.th),nI (i0.tt),nI (i0.sh),nI (i0.st)] 37)) (by kernel_rfl) ?_
 intro a8 hF7; clear hF5
 refine wpList_nil (thenN ?_)
 cases hc9:(i1)
 case true =>
  rw [hc9] at hF7
  have hm10:=ifYes hc9 hm; clear hm
  refine ev_condT hF7 rfl rfl ?_
  refine wp_seq ?_
  have hS11:=hS4.drew; clear hS4
  refine any_start (fun wS=>∃ qs,St w0 F0 (BlkP (w.heap.size) 37 #[nI (i0.cap),nI (i0.closed),nI (i0.count),nI (i0.start),nI (i0.buf),nI (i0.th),nI (i0.tt),nI (i0.sh),nI (i0.st)]::qs) wS) 6 #[false,false,false,false,false,false] (by kernel_rfl) (by kernel_rfl) (by kernel_rfl) ?_
  refine any_many 6 [(0,some (nP (w.heap.size) 7)),(1,some (nI (i0.sh))),(2,some (nP (w.heap.size) 8)),(3,some (nI (i0.st))),(4,some (nI (i0.sh))),(5,some (nI (i0.st)))] [4,5] #[true,true,true,true,true,true] (by rfl) hF7 (by kernel_rfl) (by kernel_rfl) (by exact ⟨fun wS hw=>by kernel_rfl,fun wS hw=>hw.elim fun qs hw=>run_loadV rfl rfl (run_loadS rfl rfl (hw.cell 0 rfl 7 rfl)),fun wS hw=>by kernel_rfl,fun wS hw=>hw.elim fun qs hw=>run_loadV rfl rfl (run_loadS rfl rfl (hw.cell 0 rfl 8 rfl)),fun wS hw=>by kernel_rfl,fun wS hw=>by kernel_rfl,trivial⟩) (fun _ _ _ _ _ h=>h) ⟨_,hS11⟩ (l':=[(5,nI (i0.st)),(4,nI (i0.sh))]) (by kernel_rfl) ?_
  intro a13 hF12; clear hF7
  refine any_done (by kernel_rfl) ?_
  have hS14:=hS11.drop
  clear hS11
  refine thenN ?_
  refine wp_ret ?_
  refine thenR ?_
  simp only [Option.some.injEq,Prod.mk.injEq] at hm10
  obtain ⟨rfl,rfl⟩:=hm10
  refine ev_ret hF12 [4,5] (.tuple #[nI (i0.sh),nI (i0.st)]) rfl rfl rfl ?_
  exact ⟨rfl,hS14⟩
 rw [hc9] at hF7
 have hm17:=ifNot hc9 hm; clear hm
 refine ev_condF hF7 rfl rfl ?_
 refine wp_skip ?_
 have hF18:=hF7.keep [2]
 clear hF7
 refine thenN (wp_seq ?_)
 have hS19:=hS4.drew; clear hS4
 refine any_start (fun wS=>∃ qs,St w0 F0 (BlkP (w.heap.size) 37 #[nI (i0.cap),nI (i0.closed),nI (i0.count),nI (i0.start),nI (i0.buf),nI (i0.th),nI (i0.tt),nI (i0.sh),nI (i0.st)]::qs) wS) 6 #[false,false,false,false,false,false] (by kernel_rfl) (by kernel_rfl) (by kernel_rfl) ?_
 refine any_many 6 [(0,some (nP (w.heap.size) 5)),(1,some (nI (i0.th))),(2,some (nP (w.heap.size) 6)),(3,some (nI (i0.tt))),(4,some (nI (i0.th))),(5,some (nI (i0.tt)))] [4,5] #[true,true,true,true,true,true] (by rfl) hF18 (by kernel_rfl) (by kernel_rfl) (by exact ⟨fun wS hw=>by kernel_rfl,fun wS hw=>hw.elim fun qs hw=>run_loadV rfl rfl (run_loadS rfl rfl (hw.cell 0 rfl 5 rfl)),fun wS hw=>by kernel_rfl,fun wS hw=>hw.elim fun qs hw=>run_loadV rfl rfl (run_loadS rfl rfl (hw.cell 0 rfl 6 rfl)),fun wS hw=>by kernel_rfl,fun wS hw=>by kernel_rfl,trivial⟩) (fun _ _ _ _ _ h=>h) ⟨_,hS19⟩ (l':=[(5,nI (i0.tt)),(4,nI (i0.th))]) (by kernel_rfl) ?_
 intro a21 hF20; clear hF18
 refine any_done (by kernel_rfl) ?_
 have hS22:=hS19.drop
 clear hS19
 refine thenN ?_
 refine wp_ret ?_
 simp only [Option.some.injEq,Prod.mk.injEq] at hm17
 obtain ⟨rfl,rfl⟩:=hm17
 refine ev_ret hF20 [4,5] (.tuple #[nI (i0.th),nI (i0.tt)]) rfl rfl rfl ?_
 exact ⟨rfl,hS22⟩
def ref11_turned.j1 (i0:Ch) (x12:Int) (x13:Int) (x14:Int) (x15:Int):Option (Ch):=some ((⟨i0.cap,i0.closed,i0.count,i0.start,i0.buf,x12,x13,x14,x15⟩:Ch))
def ref11_turned.m (k:Nat) (i0:Ch) (i1:Bool) (i2:Int) (i3:Int):Option (Ch):=(if (i1) then ref11_turned.j1 i0 i0.th i0.tt i2 i3 else ref11_turned.j1 i0 i2 i3 i0.sh i0.st)
theorem ref11_turned.ok {w0 w:World} {F0:List Nat} {ps:List Piece} {k:Nat} {i0:Ch} {i1:Bool} {i2:Int} {i3:Int} {r0:Ch} (hS:St w0 F0 (ps) w) (hm:ref11_turned.m k i0 i1 i2 i3=some r0) :
    Calls Tryz.prog 128 #[.agg #[nI (i0.cap),nI (i0.closed),nI (i0.count),nI (i0.start),nI (i0.buf),nI (i0.th),nI (i0.tt),nI (i0.sh),nI (i0.st)],.bool (i1),nI i2,nI i3] w fun e w'=>e=.returned (.agg #[nI (r0.cap),nI (r0.closed),nI (r0.count),nI (r0.start),nI (r0.buf),nI (r0.th),nI (r0.tt),nI (r0.sh),nI (r0.st)])∧St w0 F0 (ps) w':=by
 refine ev_enterL 19 [.agg #[nI (i0.cap),nI (i0.closed),nI (i0.count),nI (i0.start),nI (i0.buf),nI (i0.th),nI (i0.tt),nI (i0.sh),nI (i0.st)],.bool (i1),nI i2,nI i3] Tryz.func128 rfl rfl (by simp) ?_
 intro a hF
 have hF0:Fr 19 a [(0,.agg #[nI (i0.cap),nI (i0.closed),nI (i0.count),nI (i0.start),nI (i0.buf),nI (i0.th),nI (i0.tt),nI (i0.sh),nI (i0.st)]),(1,.bool (i1)),(2,nI i2),(3,nI i3)]:=hF; clear hF
 unfold ref11_turned.m at hm
 refine wp_seq (wp_region_lit ?_)
 refine ev_runs 1 hF0 (l':=[(4,nB w),(0,.agg #[nI (i0.cap),nI (i0.closed),nI (i0.count),nI (i0.start),nI (i0.buf),nI (i0.th),nI (i0.tt),nI (i0.sh),nI (i0.st)]),(1,.bool (i1)),(2,nI i2),(3,nI i3)]) (w':=w.alloc (.cells #[nI (i0.cap),nI (i0.closed),nI (i0.count),nI (i0.start),nI (i0.buf),nI (i0.th),nI (i0.tt),nI (i0.sh),nI (i0.st)] 37)) (by kernel_rfl) ?_
 intro a2 hF1; clear hF0
 have hS4:St w0 F0 (BlkP (w.heap.size) 37 #[nI (i0.cap),nI (i0.closed),nI (i0.count),nI (i0.start),nI (i0.buf),nI (i0.th),nI (i0.tt),nI (i0.sh),nI (i0.st)]::ps) (w.alloc (.cells #[nI (i0.cap),nI (i0.closed),nI (i0.count),nI (i0.start),nI (i0.buf),nI (i0.th),nI (i0.tt),nI (i0.sh),nI (i0.st)] 37)):=St.new hS #[nI (i0.cap),nI (i0.closed),nI (i0.count),nI (i0.start),nI (i0.buf),nI (i0.th),nI (i0.tt),nI (i0.sh),nI (i0.st)] 37
 refine ev_runs 1 hF1 (l':=[(8,nP ((w.alloc (.cells #[nI (i0.cap),nI (i0.closed),nI (i0.count),nI (i0.start),nI (i0.buf),nI (i0.th),nI (i0.tt),nI (i0.sh),nI (i0.st)] 37)).heap.size) 0),(4,nB w),(0,.agg #[nI (i0.cap),nI (i0.closed),nI (i0.count),nI (i0.start),nI (i0.buf),nI (i0.th),nI (i0.tt),nI (i0.sh),nI (i0.st)]),(1,.bool (i1)),(2,nI i2),(3,nI i3)]) (w':=(w.alloc (.cells #[nI (i0.cap),nI (i0.closed),nI (i0.count),nI (i0.start),nI (i0.buf),nI (i0.th),nI (i0.tt),nI (i0.sh),nI (i0.st)] 37)).alloc (.cells #[nI 0,nI 0,nI 0,nI 0,nI 0,nI 0,nI 0,nI 0,nI 0] 37)) (by kernel_rfl) ?_
 intro a6 hF5; clear hF1
 have hS8:St w0 F0 (BlkP ((w.alloc (.cells #[nI (i0.cap),nI (i0.closed),nI (i0.count),nI (i0.start),nI (i0.buf),nI (i0.th),nI (i0.tt),nI (i0.sh),nI (i0.st)] 37)).heap.size) 37 #[nI 0,nI 0,nI 0,nI 0,nI 0,nI 0,nI 0,nI 0,nI 0]::BlkP (w.heap.size) 37 #[nI (i0.cap),nI (i0.closed),nI (i0.count),nI (i0.start),nI (i0.buf),nI (i0.th),nI (i0.tt),nI (i0.sh),nI (i0.st)]::ps) ((w.alloc (.cells #[nI (i0.cap),nI (i0.closed),nI (i0.count),nI (i0.start),nI (i0.buf),nI (i0.th),nI (i0.tt),nI (i0.sh),nI (i0.st)] 37)).alloc (.cells #[nI 0,nI 0,nI 0,nI 0,nI 0,nI 0,nI 0,nI 0,nI 0] 37)):=St.new hS4 #[nI 0,nI 0,nI 0,nI 0,nI 0,nI 0,nI 0,nI 0,nI 0] 37
 clear hS4
 refine wpList_nil ?_
 have hF9:=hF5.keep [1,2,3,4,8]
 clear hF5
 refine thenN (wp_seq (wp_seq (wp_region_lit ?_)))
 refine ev_runK 1 hF9 [2,3,4,8,9] (l':=[(9,.bool (i1)),(8,nP ((w.alloc (.cells #[nI (i0.cap),nI (i0.closed),nI (i0.count),nI (i0.start),nI (i0.buf),nI (i0.th),nI (i0.tt),nI (i0.sh),nI (i0.st)] 37)).heap.size) 0),(4,nB w),(2,nI i2),(3,nI i3)]) (w':=(w.alloc (.cells #[nI (i0.cap),nI (i0.closed),nI (i0.count),nI (i0.start),nI (i0.buf),nI (i0.th),nI (i0.tt),nI (i0.sh),nI (i0.st)] 37)).alloc (.cells #[nI 0,nI 0,nI 0,nI 0,nI 0,nI 0,nI 0,nI 0,nI 0] 37)) (by kernel_rfl) ?_
 intro a11 hF10; clear hF9
 refine wpList_nil (thenN ?_)
 refine joinQ (fun aI wI=>∃ (x12:Int) (x13:Int) (x14:Int) (x15:Int),Fr 19 aI [(8,nP ((w.alloc (.cells #[nI (i0.cap),nI (i0.closed),nI (i0.count),nI (i0.start),nI (i0.buf),nI (i0.th),nI (i0.tt),nI (i0.sh),nI (i0.st)] 37)).heap.size) 0),(4,nB w)]∧St w0 F0 (BlkP (w.heap.size) 37 #[nI (i0.cap),nI (i0.closed),nI (i0.count),nI (i0.start),nI (i0.buf),nI x12,nI x13,nI x14,nI x15]::BlkP ((w.alloc (.cells #[nI (i0.cap),nI (i0.closed),nI (i0.count),nI (i0.start),nI (i0.buf),nI (i0.th),nI (i0.tt),nI (i0.sh),nI (i0.st)] 37)).heap.size) 37 #[nI 0,nI 0,nI 0,nI 0,nI 0,nI 0,nI 0,nI 0,nI 0]::ps) wI∧ref11_turned.j1 i0 x12 x13 x14 x15=some r0) ?_ ?_
 rotate_left
 · rintro a17 w18 ⟨x12,x13,x14,x15,hF19,hS20,hm21⟩
   clear hF10 hS8 hm
   unfold ref11_turned.j1 at hm21
   refine thenN (wp_seq (wp_region_lit ?_))
   refine ev_one (.agg #[nI (i0.cap),nI (i0.closed),nI (i0.count),nI (i0.start),nI (i0.buf),nI x12,nI x13,nI x14,nI x15]) w18 hF19 (by kernel_rfl) rfl (by kernel_rfl) (run_loadV rfl rfl (run_loadA (cs:=[nI (i0.cap),nI (i0.closed),nI (i0.count),nI (i0.start),nI (i0.buf),nI x12,nI x13,nI x14,nI x15]) rfl rfl (by kernel_rfl) (blk_cells hS20 0 rfl rfl))) (l':=[(18,.agg #[nI (i0.cap),nI (i0.closed),nI (i0.count),nI (i0.start),nI (i0.buf),nI x12,nI x13,nI x14,nI x15]),(8,nP ((w.alloc (.cells #[nI (i0.cap),nI (i0.closed),nI (i0.count),nI (i0.start),nI (i0.buf),nI (i0.th),nI (i0.tt),nI (i0.sh),nI (i0.st)] 37)).heap.size) 0),(4,nB w)]) (by kernel_rfl) ?_
   intro a24 hF23; clear hF19
   have hS25:=hS20.pick1
   clear hS20
   refine ev_store (.agg #[nI (i0.cap),nI (i0.closed),nI (i0.count),nI (i0.start),nI (i0.buf),nI x12,nI x13,nI x14,nI x15]) #[nI (i0.cap),nI (i0.closed),nI (i0.count),nI (i0.start),nI (i0.buf),nI x12,nI x13,nI x14,nI x15] hF23 (by kernel_rfl) rfl rfl rfl rfl (by kernel_rfl) hS25 (by kernel_rfl) (by kernel_rfl) (by kernel_rfl) (l':=[(18,.agg #[nI (i0.cap),nI (i0.closed),nI (i0.count),nI (i0.start),nI (i0.buf),nI x12,nI x13,nI x14,nI x15]),(8,nP ((w.alloc (.cells #[nI (i0.cap),nI (i0.closed),nI (i0.count),nI (i0.start),nI (i0.buf),nI (i0.th),nI (i0.tt),nI (i0.sh),nI (i0.st)] 37)).heap.size) 0),(4,nB w)]) (by kernel_rfl) ?_
   intro w26 a27 hS28 hF29; clear hF23 hS25
   refine wpList_nil ?_
   have hF30:=hF29.keep [8]
   clear hF29
   have hS31:=hS28.pick1.drop
   clear hS28
   refine thenN ?_
   refine wp_ret ?_
   obtain rfl:=Option.some.inj hm21
   refine ev_retC hF30 _ [.agg #[nI (i0.cap),nI (i0.closed),nI (i0.count),nI (i0.start),nI (i0.buf),nI x12,nI x13,nI x14,nI x15]] (.agg #[nI (i0.cap),nI (i0.closed),nI (i0.count),nI (i0.start),nI (i0.buf),nI x12,nI x13,nI x14,nI x15]) rfl ⟨⟨rfl,_,rfl,(run_loadA (cs:=[nI (i0.cap),nI (i0.closed),nI (i0.count),nI (i0.start),nI (i0.buf),nI x12,nI x13,nI x14,nI x15]) rfl rfl (by kernel_rfl) (blk_cells hS31 0 rfl rfl))⟩,trivial⟩ rfl ?_
   have hS33:=hS31.drop
   clear hS31
   exact ⟨rfl,hS33⟩
 · skip
   cases hc34:(i1)
   case true =>
    rw [hc34] at hF10
    have hm35:=ifYes hc34 hm; clear hm
    refine ev_condT hF10 rfl rfl ?_
    refine wp_region_lit ?_
    refine ev_runs 3 hF10 (l':=[(12,nP (w.heap.size) 7),(11,nI i3),(10,nI i2),(9,.bool true),(8,nP ((w.alloc (.cells #[nI (i0.cap),nI (i0.closed),nI (i0.count),nI (i0.start),nI (i0.buf),nI (i0.th),nI (i0.tt),nI (i0.sh),nI (i0.st)] 37)).heap.size) 0),(4,nB w),(2,nI i2),(3,nI i3)]) (w':=(w.alloc (.cells #[nI (i0.cap),nI (i0.closed),nI (i0.count),nI (i0.start),nI (i0.buf),nI (i0.th),nI (i0.tt),nI (i0.sh),nI (i0.st)] 37)).alloc (.cells #[nI 0,nI 0,nI 0,nI 0,nI 0,nI 0,nI 0,nI 0,nI 0] 37)) (by kernel_rfl) ?_
    intro a37 hF36; clear hF10
    have hS38:=hS8.pick1
    clear hS8
    refine ev_store (nI i2) #[nI (i0.cap),nI (i0.closed),nI (i0.count),nI (i0.start),nI (i0.buf),nI (i0.th),nI (i0.tt),nI i2,nI (i0.st)] hF36 (by kernel_rfl) rfl rfl rfl rfl (by kernel_rfl) hS38 (by kernel_rfl) (by kernel_rfl) (by kernel_rfl) (l':=[(12,nP (w.heap.size) 7),(11,nI i3),(10,nI i2),(9,.bool true),(8,nP ((w.alloc (.cells #[nI (i0.cap),nI (i0.closed),nI (i0.count),nI (i0.start),nI (i0.buf),nI (i0.th),nI (i0.tt),nI (i0.sh),nI (i0.st)] 37)).heap.size) 0),(4,nB w),(2,nI i2),(3,nI i3)]) (by kernel_rfl) ?_
    intro w39 a40 hS41 hF42; clear hF36 hS38
    refine ev_runs 1 hF42 (l':=[(13,nP (w.heap.size) 8),(12,nP (w.heap.size) 7),(11,nI i3),(10,nI i2),(9,.bool true),(8,nP ((w.alloc (.cells #[nI (i0.cap),nI (i0.closed),nI (i0.count),nI (i0.start),nI (i0.buf),nI (i0.th),nI (i0.tt),nI (i0.sh),nI (i0.st)] 37)).heap.size) 0),(4,nB w),(2,nI i2),(3,nI i3)]) (w':=w39) (by kernel_rfl) ?_
    intro a44 hF43; clear hF42
    refine ev_store (nI i3) #[nI (i0.cap),nI (i0.closed),nI (i0.count),nI (i0.start),nI (i0.buf),nI (i0.th),nI (i0.tt),nI i2,nI i3] hF43 (by kernel_rfl) rfl rfl rfl rfl (by kernel_rfl) hS41 (by kernel_rfl) (by kernel_rfl) (by kernel_rfl) (l':=[(13,nP (w.heap.size) 8),(12,nP (w.heap.size) 7),(11,nI i3),(10,nI i2),(9,.bool true),(8,nP ((w.alloc (.cells #[nI (i0.cap),nI (i0.closed),nI (i0.count),nI (i0.start),nI (i0.buf),nI (i0.th),nI (i0.tt),nI (i0.sh),nI (i0.st)] 37)).heap.size) 0),(4,nB w),(2,nI i2),(3,nI i3)]) (by kernel_rfl) ?_
    intro w45 a46 hS47 hF48; clear hF43 hS41
    refine wpList_nil ?_
    have hF49:=hF48.keep [4,8]
    clear hF48
    exact thenN ⟨i0.th,i0.tt,i2,i3,hF49,hS47,hm35⟩
   rw [hc34] at hF10
   have hm50:=ifNot hc34 hm; clear hm
   refine ev_condF hF10 rfl rfl ?_
   refine wp_region_lit ?_
   refine ev_runs 3 hF10 (l':=[(16,nP (w.heap.size) 5),(15,nI i3),(14,nI i2),(9,.bool false),(8,nP ((w.alloc (.cells #[nI (i0.cap),nI (i0.closed),nI (i0.count),nI (i0.start),nI (i0.buf),nI (i0.th),nI (i0.tt),nI (i0.sh),nI (i0.st)] 37)).heap.size) 0),(4,nB w),(2,nI i2),(3,nI i3)]) (w':=(w.alloc (.cells #[nI (i0.cap),nI (i0.closed),nI (i0.count),nI (i0.start),nI (i0.buf),nI (i0.th),nI (i0.tt),nI (i0.sh),nI (i0.st)] 37)).alloc (.cells #[nI 0,nI 0,nI 0,nI 0,nI 0,nI 0,nI 0,nI 0,nI 0] 37)) (by kernel_rfl) ?_
   intro a52 hF51; clear hF10
   have hS53:=hS8.pick1
   clear hS8
   refine ev_store (nI i2) #[nI (i0.cap),nI (i0.closed),nI (i0.count),nI (i0.start),nI (i0.buf),nI i2,nI (i0.tt),nI (i0.sh),nI (i0.st)] hF51 (by kernel_rfl) rfl rfl rfl rfl (by kernel_rfl) hS53 (by kernel_rfl) (by kernel_rfl) (by kernel_rfl) (l':=[(16,nP (w.heap.size) 5),(15,nI i3),(14,nI i2),(9,.bool false),(8,nP ((w.alloc (.cells #[nI (i0.cap),nI (i0.closed),nI (i0.count),nI (i0.start),nI (i0.buf),nI (i0.th),nI (i0.tt),nI (i0.sh),nI (i0.st)] 37)).heap.size) 0),(4,nB w),(2,nI i2),(3,nI i3)]) (by kernel_rfl) ?_
   intro w54 a55 hS56 hF57; clear hF51 hS53
   refine ev_runs 1 hF57 (l':=[(17,nP (w.heap.size) 6),(16,nP (w.heap.size) 5),(15,nI i3),(14,nI i2),(9,.bool false),(8,nP ((w.alloc (.cells #[nI (i0.cap),nI (i0.closed),nI (i0.count),nI (i0.start),nI (i0.buf),nI (i0.th),nI (i0.tt),nI (i0.sh),nI (i0.st)] 37)).heap.size) 0),(4,nB w),(2,nI i2),(3,nI i3)]) (w':=w54) (by kernel_rfl) ?_
   intro a59 hF58; clear hF57
   refine ev_store (nI i3) #[nI (i0.cap),nI (i0.closed),nI (i0.count),nI (i0.start),nI (i0.buf),nI i2,nI i3,nI (i0.sh),nI (i0.st)] hF58 (by kernel_rfl) rfl rfl rfl rfl (by kernel_rfl) hS56 (by kernel_rfl) (by kernel_rfl) (by kernel_rfl) (l':=[(17,nP (w.heap.size) 6),(16,nP (w.heap.size) 5),(15,nI i3),(14,nI i2),(9,.bool false),(8,nP ((w.alloc (.cells #[nI (i0.cap),nI (i0.closed),nI (i0.count),nI (i0.start),nI (i0.buf),nI (i0.th),nI (i0.tt),nI (i0.sh),nI (i0.st)] 37)).heap.size) 0),(4,nB w),(2,nI i2),(3,nI i3)]) (by kernel_rfl) ?_
   intro w60 a61 hS62 hF63; clear hF58 hS56
   refine wpList_nil ?_
   have hF64:=hF63.keep [4,8]
   clear hF63
   exact thenN ⟨i2,i3,i0.sh,i0.st,hF64,hS62,hm50⟩
def ref11_next.j1 (s24:HSt):Option (HSt):=some (s24)
def ref11_next.m (k:Nat) (s0:HSt) (i1:Int) (i2:Int):Option (HSt):=bind3 (ref11_Sudog.m k s0 i1) fun q3 x4 s5=>(if (x4 == 0) then bind2 (ref11_PutSudog.m k s5 i1 (⟨q3.gor,q3.chan,q3.value,i2,q3.to,q3.reg,q3.more⟩:Su)) fun x47 s48=>ref11_next.j1 s48 else ref11_next.j1 s5)
theorem ref11_next.ok {w0 w:World} {F0:List Nat} {ps:List Piece} {k:Nat} {b0 ab0 sb0 g0 cb0:Nat} {s0:HSt} {i1:Int} {i2:Int} {t0:HSt} (hS:St w0 F0 (RHeapP b0 ab0 sb0 g0 cb0 s0::ps) w) (hm:ref11_next.m k s0 i1 i2=some t0) :
    Calls Tryz.prog 127 #[nP b0 0,nI i1,nI i2] w fun e w'=>e=.returned (.tuple #[])∧St w0 F0 (RHeapP b0 ab0 sb0 g0 cb0 t0::ps) w':=by
 refine ev_enterL 22 [nP b0 0,nI i1,nI i2] Tryz.func127 rfl rfl (by simp) ?_
 intro a hF
 have hF0:Fr 22 a [(0,nP b0 0),(1,nI i1),(2,nI i2)]:=hF; clear hF
 unfold ref11_next.m at hm
 refine wp_seq (wp_region_lit ?_)
 refine ev_runs 2 hF0 (l':=[(10,nI i1),(9,nP b0 0),(0,nP b0 0),(1,nI i1),(2,nI i2)]) (w':=w) (by kernel_rfl) ?_
 intro a2 hF1; clear hF0
 refine ev_call 124 #[nP b0 0,nI i1] hF1 rfl rfl (by kernel_rfl) rfl (by kernel_rfl) (fun w=>by kernel_rfl) ?_
 obtain ⟨q3,x4,s5,hx6,hm7⟩:=bind3E hm; clear hm
 refine (ref11_Sudog.ok hS hx6).mono ?_
 rintro _ w8 ⟨rfl,hS10⟩ a9 hF11; clear hF1 hS
 refine ev_runs 4 hF11 (l':=[(6,nB w8),(13,nI x4),(12,.agg #[nI (q3.gor),nI (q3.chan),nI (q3.value),nI (q3.next),nI (q3.to),nI (q3.reg),nI (q3.more)]),(8,.tuple #[.agg #[nI (q3.gor),nI (q3.chan),nI (q3.value),nI (q3.next),nI (q3.to),nI (q3.reg),nI (q3.more)],nI x4]),(11,.tuple #[.agg #[nI (q3.gor),nI (q3.chan),nI (q3.value),nI (q3.next),nI (q3.to),nI (q3.reg),nI (q3.more)],nI x4]),(10,nI i1),(9,nP b0 0),(0,nP b0 0),(1,nI i1),(2,nI i2)]) (w':=w8.alloc (.cells #[nI 0,nI 0,nI 0,nI 0,nI 0,nI 0,nI 0] 54)) (by kernel_rfl) ?_
 intro a13 hF12; clear hF11
 have hS15:St w0 F0 (BlkP (w8.heap.size) 54 #[nI 0,nI 0,nI 0,nI 0,nI 0,nI 0,nI 0]::RHeapP b0 ab0 sb0 g0 cb0 s5::ps) (w8.alloc (.cells #[nI 0,nI 0,nI 0,nI 0,nI 0,nI 0,nI 0] 54)):=St.new hS10 #[nI 0,nI 0,nI 0,nI 0,nI 0,nI 0,nI 0] 54
 clear hS10
 refine ev_store (.agg #[nI (q3.gor),nI (q3.chan),nI (q3.value),nI (q3.next),nI (q3.to),nI (q3.reg),nI (q3.more)]) #[nI (q3.gor),nI (q3.chan),nI (q3.value),nI (q3.next),nI (q3.to),nI (q3.reg),nI (q3.more)] hF12 (by kernel_rfl) rfl rfl rfl rfl (by kernel_rfl) hS15 (by kernel_rfl) (by kernel_rfl) (by kernel_rfl) (l':=[(6,nB w8),(13,nI x4),(12,.agg #[nI (q3.gor),nI (q3.chan),nI (q3.value),nI (q3.next),nI (q3.to),nI (q3.reg),nI (q3.more)]),(8,.tuple #[.agg #[nI (q3.gor),nI (q3.chan),nI (q3.value),nI (q3.next),nI (q3.to),nI (q3.reg),nI (q3.more)],nI x4]),(11,.tuple #[.agg #[nI (q3.gor),nI (q3.chan),nI (q3.value),nI (q3.next),nI (q3.to),nI (q3.reg),nI (q3.more)],nI x4]),(10,nI i1),(9,nP b0 0),(0,nP b0 0),(1,nI i1),(2,nI i2)]) (by kernel_rfl) ?_
 intro w16 a17 hS18 hF19; clear hF12 hS15
 refine ev_runK 1 hF19 [0,1,2,6,7] (l':=[(7,nI x4),(6,nB w8),(0,nP b0 0),(1,nI i1),(2,nI i2)]) (w':=w16) (by kernel_rfl) ?_
 intro a21 hF20; clear hF19
 refine wpList_nil (thenN (wp_seq (wp_region_lit ?_)))
 refine ev_runK 2 hF20 [0,1,2,6,15] (l':=[(15,.bool (x4 == 0)),(6,nB w8),(0,nP b0 0),(1,nI i1),(2,nI i2)]) (w':=w16) (by kernel_rfl) ?_
 intro a23 hF22; clear hF20
 refine wpList_nil (thenN ?_)
 refine joinQ (fun aI wI=>∃ (s24:HSt),Fr 22 aI []∧St w0 F0 (RHeapP b0 ab0 sb0 g0 cb0 s24::ps) wI∧ref11_next.j1 s24=some t0) ?_ ?_
 rotate_left
 · rintro a26 w27 ⟨s24,hF28,hS29,hm30⟩
   clear hF22 hS18 hm7
   unfold ref11_next.j1 at hm30
   obtain rfl:=Option.some.inj hm30
   refine ev_retN hF28 [] (.tuple #[]) rfl rfl rfl ?_
   exact ⟨rfl,hS29⟩
 · skip
   cases hc33:(x4 == 0)
   case true =>
    rw [hc33] at hF22
    have hm34:=ifYes hc33 hm7; clear hm7
    refine ev_condT hF22 rfl rfl ?_
    refine wp_seq (wp_region_lit ?_)
    refine ev_runs 2 hF22 (l':=[(17,nP (w8.heap.size) 3),(16,nI i2),(15,.bool true),(6,nB w8),(0,nP b0 0),(1,nI i1),(2,nI i2)]) (w':=w16) (by kernel_rfl) ?_
    intro a36 hF35; clear hF22
    refine ev_store (nI i2) #[nI (q3.gor),nI (q3.chan),nI (q3.value),nI i2,nI (q3.to),nI (q3.reg),nI (q3.more)] hF35 (by kernel_rfl) rfl rfl rfl rfl (by kernel_rfl) hS18 (by kernel_rfl) (by kernel_rfl) (by kernel_rfl) (l':=[(17,nP (w8.heap.size) 3),(16,nI i2),(15,.bool true),(6,nB w8),(0,nP b0 0),(1,nI i1),(2,nI i2)]) (by kernel_rfl) ?_
    intro w37 a38 hS39 hF40; clear hF35 hS18
    refine wpList_nil ?_
    have hF41:=hF40.keep [0,1,6]
    clear hF40
    refine thenN (wp_region_lit ?_)
    refine ev_runs 2 hF41 (l':=[(19,nI i1),(18,nP b0 0),(6,nB w8),(0,nP b0 0),(1,nI i1)]) (w':=w37) (by kernel_rfl) ?_
    intro a43 hF42; clear hF41
    refine ev_one (.agg #[nI (q3.gor),nI (q3.chan),nI (q3.value),nI i2,nI (q3.to),nI (q3.reg),nI (q3.more)]) w37 hF42 (by kernel_rfl) rfl (by kernel_rfl) (run_loadV rfl rfl (run_loadA (cs:=[nI (q3.gor),nI (q3.chan),nI (q3.value),nI i2,nI (q3.to),nI (q3.reg),nI (q3.more)]) rfl rfl (by kernel_rfl) (blk_cells hS39 0 rfl rfl))) (l':=[(20,.agg #[nI (q3.gor),nI (q3.chan),nI (q3.value),nI i2,nI (q3.to),nI (q3.reg),nI (q3.more)]),(19,nI i1),(18,nP b0 0),(6,nB w8),(0,nP b0 0),(1,nI i1)]) (by kernel_rfl) ?_
    intro a45 hF44; clear hF42
    have hS46:=hS39.pick1
    clear hS39
    refine ev_call 77 #[nP b0 0,nI i1,.agg #[nI (q3.gor),nI (q3.chan),nI (q3.value),nI i2,nI (q3.to),nI (q3.reg),nI (q3.more)]] hF44 rfl rfl (by kernel_rfl) rfl (by kernel_rfl) (fun w=>by kernel_rfl) ?_
    obtain ⟨x47,s48,hx49,hm50⟩:=bind2E hm34; clear hm34
    refine (ref11_PutSudog.ok hS46 hx49).mono ?_
    rintro _ w51 ⟨rfl,hS53⟩ a52 hF54; clear hF44 hS46
    refine wpList_nil ?_
    have hF55:=hF54.keep []
    clear hF54
    have hS56:=hS53.pick1.drop
    clear hS53
    exact thenN ⟨s48,hF55,hS56,hm50⟩
   rw [hc33] at hF22
   have hm57:=ifNot hc33 hm7; clear hm7
   refine ev_condF hF22 rfl rfl ?_
   refine wp_skip ?_
   have hF58:=hF22.keep []
   clear hF22
   have hS59:=hS18.drop
   clear hS18
   exact thenN ⟨s5,hF58,hS59,hm57⟩
def ref11_AllList.j4 (L60:List Int) (x63:Int) (rec66:List Int→HSt→Int→Option (List Int×HSt)) (q78:Su) (s80:HSt) (y97:Bool):Option (List Int×HSt):=(if (y97) then some (L60,s80) else bind1 (pushM L60 x63) fun L121=>rec66 L121 s80 q78.next)
def ref11_AllList.l3b (k:Nat) (rec66:List Int→HSt→Int→Option (List Int×HSt)) (L60:List Int) (s62:HSt) (x63:Int):Option (List Int×HSt):=bind3 (ref11_Sudog.m k s62 x63) fun q78 x79 s80=>(if (x79 != 0) then ref11_AllList.j4 L60 x63 rec66 q78 s80 true else bind1 (help_In.m k L60 x63) fun y143=>ref11_AllList.j4 L60 x63 rec66 q78 s80 y143)
def ref11_AllList.l3 (k:Nat):Nat→List Int→HSt→Int→Option (List Int×HSt)
  | 0=>fun _ _ _=>none
  | kI+1=>ref11_AllList.l3b k (ref11_AllList.l3 k kI)
def ref11_AllList.m (k:Nat) (s0:HSt) (i1:Int) (i2:Bool):Option (List Int×HSt):=bind3 (ref11_Chan.m k s0 i1) fun q8 x9 s10=>(if (x9 != 0) then some ([],s10) else bind2 (ref11_ends.m k (⟨q8.cap,q8.closed,q8.count,q8.start,q8.buf,q8.th,q8.tt,q8.sh,q8.st⟩:Ch) (i2)) fun x49 x50=>ref11_AllList.l3 k k [] s10 x49)
theorem ref11_AllList.ok {w0 w:World} {F0:List Nat} {ps:List Piece} {k:Nat} {b0 ab0 sb0 g0 cb0:Nat} {s0:HSt} {i1:Int} {i2:Bool} {r0:List Int} {t0:HSt} (hS:St w0 F0 (RHeapP b0 ab0 sb0 g0 cb0 s0::ps) w) (hm:ref11_AllList.m k s0 i1 i2=some (r0,t0)) :
    Calls Tryz.prog 126 #[nP b0 0,nI i1,.bool (i2)] w fun e w'=>∃ vr0,e=.returned (vr0)∧St w0 F0 (RHeapP b0 ab0 sb0 g0 cb0 t0::RowP vr0 r0::ps) w':=by
 refine ev_enterL 48 [nP b0 0,nI i1,.bool (i2)] Tryz.func126 rfl rfl (by simp) ?_
 intro a hF
 have hF0:Fr 48 a [(0,nP b0 0),(1,nI i1),(2,.bool (i2))]:=hF; clear hF
 unfold ref11_AllList.m at hm
 refine wp_seq (wp_region_lit ?_)
 have hS2:St w0 F0 (RowP (.slice none 0 0) []::RHeapP b0 ab0 sb0 g0 cb0 s0::ps) w:=St.nil hS
 refine ev_runK 1 hF0 [0,1,2] (l':=[(0,nP b0 0),(1,nI i1),(2,.bool (i2))]) (w':=w) (by kernel_rfl) ?_
 intro a4 hF3; clear hF0
 refine wpList_nil ?_
 have hS5:=hS2.drop
 clear hS2
 refine thenN (wp_seq (wp_region_lit ?_))
 refine ev_runs 2 hF3 (l':=[(16,nI i1),(15,nP b0 0),(0,nP b0 0),(1,nI i1),(2,.bool (i2))]) (w':=w) (by kernel_rfl) ?_
 intro a7 hF6; clear hF3
 refine ev_call 96 #[nP b0 0,nI i1] hF6 rfl rfl (by kernel_rfl) rfl (by kernel_rfl) (fun w=>by kernel_rfl) ?_
 obtain ⟨q8,x9,s10,hx11,hm12⟩:=bind3E hm; clear hm
 refine (ref11_Chan.ok hS5 hx11).mono ?_
 rintro _ w13 ⟨rfl,hS15⟩ a14 hF16; clear hF6 hS5
 refine ev_runs 4 hF16 (l':=[(7,nB w13),(19,nI x9),(18,.agg #[nI (q8.cap),nI (q8.closed),nI (q8.count),nI (q8.start),nI (q8.buf),nI (q8.th),nI (q8.tt),nI (q8.sh),nI (q8.st)]),(14,.tuple #[.agg #[nI (q8.cap),nI (q8.closed),nI (q8.count),nI (q8.start),nI (q8.buf),nI (q8.th),nI (q8.tt),nI (q8.sh),nI (q8.st)],nI x9]),(17,.tuple #[.agg #[nI (q8.cap),nI (q8.closed),nI (q8.count),nI (q8.start),nI (q8.buf),nI (q8.th),nI (q8.tt),nI (q8.sh),nI (q8.st)],nI x9]),(16,nI i1),(15,nP b0 0),(0,nP b0 0),(1,nI i1),(2,.bool (i2))]) (w':=w13.alloc (.cells #[nI 0,nI 0,nI 0,nI 0,nI 0,nI 0,nI 0,nI 0,nI 0] 37)) (by kernel_rfl) ?_
 intro a18 hF17; clear hF16
 have hS20:St w0 F0 (BlkP (w13.heap.size) 37 #[nI 0,nI 0,nI 0,nI 0,nI 0,nI 0,nI 0,nI 0,nI 0]::RHeapP b0 ab0 sb0 g0 cb0 s10::ps) (w13.alloc (.cells #[nI 0,nI 0,nI 0,nI 0,nI 0,nI 0,nI 0,nI 0,nI 0] 37)):=St.new hS15 #[nI 0,nI 0,nI 0,nI 0,nI 0,nI 0,nI 0,nI 0,nI 0] 37
 clear hS15
 refine ev_store (.agg #[nI (q8.cap),nI (q8.closed),nI (q8.count),nI (q8.start),nI (q8.buf),nI (q8.th),nI (q8.tt),nI (q8.sh),nI (q8.st)]) #[nI (q8.cap),nI (q8.closed),nI (q8.count),nI (q8.start),nI (q8.buf),nI (q8.th),nI (q8.tt),nI (q8.sh),nI (q8.st)] hF17 (by kernel_rfl) rfl rfl rfl rfl (by kernel_rfl) hS20 (by kernel_rfl) (by kernel_rfl) (by kernel_rfl) (l':=[(7,nB w13),(19,nI x9),(18,.agg #[nI (q8.cap),nI (q8.closed),nI (q8.count),nI (q8.start),nI (q8.buf),nI (q8.th),nI (q8.tt),nI (q8.sh),nI (q8.st)]),(14,.tuple #[.agg #[nI (q8.cap),nI (q8.closed),nI (q8.count),nI (q8.start),nI (q8.buf),nI (q8.th),nI (q8.tt),nI (q8.sh),nI (q8.st)],nI x9]),(17,.tuple #[.agg #[nI (q8.cap),nI (q8.closed),nI (q8.count),nI (q8.start),nI (q8.buf),nI (q8.th),nI (q8.tt),nI (q8.sh),nI (q8.st)],nI x9]),(16,nI i1),(15,nP b0 0),(0,nP b0 0),(1,nI i1),(2,.bool (i2))]) (by kernel_rfl) ?_
 intro w21 a22 hS23 hF24; clear hF17 hS20
 refine ev_runK 1 hF24 [0,2,7,8] (l':=[(8,nI x9),(7,nB w13),(0,nP b0 0),(2,.bool (i2))]) (w':=w21) (by kernel_rfl) ?_
 intro a26 hF25; clear hF24
 refine wpList_nil (thenN (wp_seq (wp_seq (wp_region_lit ?_))))
 refine ev_runK 2 hF25 [0,2,7,21] (l':=[(21,.bool (x9 != 0)),(7,nB w13),(0,nP b0 0),(2,.bool (i2))]) (w':=w21) (by kernel_rfl) ?_
 intro a28 hF27; clear hF25
 refine wpList_nil (thenN ?_)
 cases hc29:(x9 != 0)
 case true =>
  rw [hc29] at hF27
  have hm30:=ifYes hc29 hm12; clear hm12
  refine ev_condT hF27 rfl rfl ?_
  refine wp_seq (wp_region_lit ?_)
  have hS32:St w0 F0 (RowP (.slice none 0 0) []::BlkP (w13.heap.size) 37 #[nI (q8.cap),nI (q8.closed),nI (q8.count),nI (q8.start),nI (q8.buf),nI (q8.th),nI (q8.tt),nI (q8.sh),nI (q8.st)]::RHeapP b0 ab0 sb0 g0 cb0 s10::ps) w21:=St.nil hS23
  clear hS23
  refine ev_runK 1 hF27 [6] (l':=[(6,.slice none 0 0)]) (w':=w21) (by kernel_rfl) ?_
  intro a34 hF33; clear hF27
  refine wpList_nil ?_
  have hS35:=hS32.pick1.drop
  clear hS32
  refine thenN ?_
  refine wp_ret ?_
  refine thenR ?_
  have hS36:=hS35.pick1
  clear hS35
  simp only [Option.some.injEq,Prod.mk.injEq] at hm30
  obtain ⟨rfl,rfl⟩:=hm30
  refine ev_ret hF33 [6] (.slice none 0 0) rfl rfl rfl ?_
  exact ⟨_,rfl,hS36⟩
 rw [hc29] at hF27
 have hm39:=ifNot hc29 hm12; clear hm12
 refine ev_condF hF27 rfl rfl ?_
 refine wp_skip ?_
 have hF40:=hF27.keep [0,2,7]
 clear hF27
 refine thenN (wp_seq (wp_region_lit ?_))
 have hS42:St w0 F0 (RowP (.slice none 0 0) []::BlkP (w13.heap.size) 37 #[nI (q8.cap),nI (q8.closed),nI (q8.count),nI (q8.start),nI (q8.buf),nI (q8.th),nI (q8.tt),nI (q8.sh),nI (q8.st)]::RHeapP b0 ab0 sb0 g0 cb0 s10::ps) w21:=St.nil hS23
 clear hS23
 refine ev_runs 1 hF40 (l':=[(9,.slice none 0 0),(7,nB w13),(0,nP b0 0),(2,.bool (i2))]) (w':=w21) (by kernel_rfl) ?_
 intro a44 hF43; clear hF40
 refine wpList_nil (thenN (wp_seq (wp_region_lit ?_)))
 refine ev_one (.agg #[nI (q8.cap),nI (q8.closed),nI (q8.count),nI (q8.start),nI (q8.buf),nI (q8.th),nI (q8.tt),nI (q8.sh),nI (q8.st)]) w21 hF43 (by kernel_rfl) rfl (by kernel_rfl) (run_loadV rfl rfl (run_loadA (cs:=[nI (q8.cap),nI (q8.closed),nI (q8.count),nI (q8.start),nI (q8.buf),nI (q8.th),nI (q8.tt),nI (q8.sh),nI (q8.st)]) rfl rfl (by kernel_rfl) (blk_cells hS42 1 rfl rfl))) (l':=[(23,.agg #[nI (q8.cap),nI (q8.closed),nI (q8.count),nI (q8.start),nI (q8.buf),nI (q8.th),nI (q8.tt),nI (q8.sh),nI (q8.st)]),(9,.slice none 0 0),(7,nB w13),(0,nP b0 0),(2,.bool (i2))]) (by kernel_rfl) ?_
 intro a46 hF45; clear hF43
 refine ev_runs 1 hF45 (l':=[(24,.bool (i2)),(23,.agg #[nI (q8.cap),nI (q8.closed),nI (q8.count),nI (q8.start),nI (q8.buf),nI (q8.th),nI (q8.tt),nI (q8.sh),nI (q8.st)]),(9,.slice none 0 0),(7,nB w13),(0,nP b0 0),(2,.bool (i2))]) (w':=w21) (by kernel_rfl) ?_
 intro a48 hF47; clear hF45
 refine ev_call 125 #[.agg #[nI (q8.cap),nI (q8.closed),nI (q8.count),nI (q8.start),nI (q8.buf),nI (q8.th),nI (q8.tt),nI (q8.sh),nI (q8.st)],.bool (i2)] hF47 rfl rfl (by kernel_rfl) rfl (by kernel_rfl) (fun w=>by kernel_rfl) ?_
 obtain ⟨x49,x50,hx51,hm52⟩:=bind2E hm39; clear hm39
 refine (ref11_ends.ok hS42 hx51).mono ?_
 rintro _ w53 ⟨rfl,hS55⟩ a54 hF56; clear hF47 hS42
 refine ev_runK 5 hF56 [0,9,10] (l':=[(10,nI x49),(9,.slice none 0 0),(0,nP b0 0)]) (w':=w53) (by kernel_rfl) ?_
 intro a58 hF57; clear hF56
 refine wpList_nil ?_
 have hS59:=hS55.pick1.drop
 clear hS55
 refine thenN ?_
 refine wp_block ?_
 refine wp_loop_ghost (fun kI aI wI=>∃ (v61:Value) (L60:List Int) (s62:HSt) (x63:Int),Fr 48 aI [(10,nI x63),(9,v61),(0,nP b0 0)]∧St w0 F0 (RowP (v61) L60::RHeapP b0 ab0 sb0 g0 cb0 s62::ps) wI∧ref11_AllList.l3 k kI L60 s62 x63=some (r0,t0)) k ⟨.slice none 0 0,[],s10,x49,hF57,hS59,hm52⟩ ?_
 rintro k64 a65 w66 ⟨v61,L60,s62,x63,hF67,hS68,hm69⟩
 clear hF57 hS59 hm52
 rcases k64 with _ | k64
 · cases hm69
 have hm70:ref11_AllList.l3b k (ref11_AllList.l3 k k64) L60 s62 x63=some (r0,t0):=hm69
 clear hm69
 unfold ref11_AllList.l3b at hm70
 obtain ⟨hl74,p71,c72,rfl,hp73⟩:=St.shape hS68 0 rfl
 refine wp_block ?_
 refine wp_seq (wp_region_lit ?_)
 refine ev_runs 2 hF67 (l':=[(30,nI x63),(29,nP b0 0),(10,nI x63),(9,.slice p71 L60.length c72),(0,nP b0 0)]) (w':=w66) (by kernel_rfl) ?_
 intro a76 hF75; clear hF67
 have hS77:=hS68.pick1
 clear hS68
 refine ev_call 124 #[nP b0 0,nI x63] hF75 rfl rfl (by kernel_rfl) rfl (by kernel_rfl) (fun w=>by kernel_rfl) ?_
 obtain ⟨q78,x79,s80,hx81,hm82⟩:=bind3E hm70; clear hm70
 refine (ref11_Sudog.ok hS77 hx81).mono ?_
 rintro _ w83 ⟨rfl,hS85⟩ a84 hF86; clear hF75 hS77
 refine ev_runs 4 hF86 (l':=[(12,nB w83),(33,nI x79),(32,.agg #[nI (q78.gor),nI (q78.chan),nI (q78.value),nI (q78.next),nI (q78.to),nI (q78.reg),nI (q78.more)]),(28,.tuple #[.agg #[nI (q78.gor),nI (q78.chan),nI (q78.value),nI (q78.next),nI (q78.to),nI (q78.reg),nI (q78.more)],nI x79]),(31,.tuple #[.agg #[nI (q78.gor),nI (q78.chan),nI (q78.value),nI (q78.next),nI (q78.to),nI (q78.reg),nI (q78.more)],nI x79]),(30,nI x63),(29,nP b0 0),(10,nI x63),(9,.slice p71 L60.length c72),(0,nP b0 0)]) (w':=w83.alloc (.cells #[nI 0,nI 0,nI 0,nI 0,nI 0,nI 0,nI 0] 54)) (by kernel_rfl) ?_
 intro a88 hF87; clear hF86
 have hS90:St w0 F0 (BlkP (w83.heap.size) 54 #[nI 0,nI 0,nI 0,nI 0,nI 0,nI 0,nI 0]::RHeapP b0 ab0 sb0 g0 cb0 s80::RowP (.slice p71 L60.length c72) L60::ps) (w83.alloc (.cells #[nI 0,nI 0,nI 0,nI 0,nI 0,nI 0,nI 0] 54)):=St.new hS85 #[nI 0,nI 0,nI 0,nI 0,nI 0,nI 0,nI 0] 54
 clear hS85
 refine ev_store (.agg #[nI (q78.gor),nI (q78.chan),nI (q78.value),nI (q78.next),nI (q78.to),nI (q78.reg),nI (q78.more)]) #[nI (q78.gor),nI (q78.chan),nI (q78.value),nI (q78.next),nI (q78.to),nI (q78.reg),nI (q78.more)] hF87 (by kernel_rfl) rfl rfl rfl rfl (by kernel_rfl) hS90 (by kernel_rfl) (by kernel_rfl) (by kernel_rfl) (l':=[(12,nB w83),(33,nI x79),(32,.agg #[nI (q78.gor),nI (q78.chan),nI (q78.value),nI (q78.next),nI (q78.to),nI (q78.reg),nI (q78.more)]),(28,.tuple #[.agg #[nI (q78.gor),nI (q78.chan),nI (q78.value),nI (q78.next),nI (q78.to),nI (q78.reg),nI (q78.more)],nI x79]),(31,.tuple #[.agg #[nI (q78.gor),nI (q78.chan),nI (q78.value),nI (q78.next),nI (q78.to),nI (q78.reg),nI (q78.more)],nI x79]),(30,nI x63),(29,nP b0 0),(10,nI x63),(9,.slice p71 L60.length c72),(0,nP b0 0)]) (by kernel_rfl) ?_
 intro w91 a92 hS93 hF94; clear hF87 hS90
 refine ev_runK 1 hF94 [0,9,10,12,13] (l':=[(13,nI x79),(12,nB w83),(10,nI x63),(9,.slice p71 L60.length c72),(0,nP b0 0)]) (w':=w91) (by kernel_rfl) ?_
 intro a96 hF95; clear hF94
 refine wpList_nil (thenN (wp_seq (wp_seq ?_)))
 refine joinQ (fun aI wI=>∃ (y97:Bool),Fr 48 aI [(40,.bool (y97)),(12,nB w83),(10,nI x63),(9,.slice p71 L60.length c72),(0,nP b0 0)]∧St w0 F0 (BlkP (w83.heap.size) 54 #[nI (q78.gor),nI (q78.chan),nI (q78.value),nI (q78.next),nI (q78.to),nI (q78.reg),nI (q78.more)]::RHeapP b0 ab0 sb0 g0 cb0 s80::RowP (.slice p71 L60.length c72) L60::ps) wI∧ref11_AllList.j4 L60 x63 (ref11_AllList.l3 k k64) q78 s80 y97=some (r0,t0)) ?_ ?_
 rotate_left
 · rintro a99 w100 ⟨y97,hF101,hS102,hm103⟩
   clear hF95 hS93 hm82
   unfold ref11_AllList.j4 at hm103
   refine thenN ?_
   cases hc105:(y97)
   case true =>
    rw [hc105] at hF101
    have hm106:=ifYes hc105 hm103; clear hm103
    refine ev_condT hF101 rfl rfl ?_
    refine wp_seq (wp_region_lit ?_)
    refine ev_runK 2 hF101 [6] (l':=[(6,.slice p71 L60.length c72)]) (w':=w100) (by kernel_rfl) ?_
    intro a108 hF107; clear hF101
    refine wpList_nil ?_
    have hS109:=hS102.drop
    clear hS102
    refine thenN ?_
    refine wp_ret ?_
    refine thenR ?_
    refine blockR ?_
    refine thenR ?_
    refine blockR ?_
    simp only [Option.some.injEq,Prod.mk.injEq] at hm106
    obtain ⟨rfl,rfl⟩:=hm106
    refine ev_ret hF107 [6] (.slice p71 L60.length c72) rfl rfl rfl ?_
    exact ⟨_,rfl,hS109⟩
   rw [hc105] at hF101
   have hm112:=ifNot hc105 hm103; clear hm103
   refine ev_condF hF101 rfl rfl ?_
   refine wp_skip ?_
   have hF113:=hF101.keep [0,9,10,12]
   clear hF101
   refine thenN ?_
   have hS114:=hS102.drew; clear hS102
   refine any_start (fun wS=>∃ qs,St w0 F0 (BlkP (w83.heap.size) 54 #[nI (q78.gor),nI (q78.chan),nI (q78.value),nI (q78.next),nI (q78.to),nI (q78.reg),nI (q78.more)]::qs) wS) 8 #[false,false,false,false,false,false,false,false] (by kernel_rfl) (by kernel_rfl) (by kernel_rfl) ?_
   refine any_many 4 [(0,some (.slice p71 L60.length c72)),(1,some (nI x63)),(4,some (nP (w83.heap.size) 3)),(5,some (nI (q78.next)))] [0,9,10,42,43,44,45,47] #[true,true,false,false,true,true,false,false] (by rfl) hF113 (by kernel_rfl) (by kernel_rfl) (by exact ⟨fun wS hw=>by kernel_rfl,fun wS hw=>by kernel_rfl,fun wS hw=>by kernel_rfl,fun wS hw=>hw.elim fun qs hw=>run_loadV rfl rfl (run_loadS rfl rfl (hw.cell 0 rfl 3 rfl)),trivial⟩) (fun _ _ _ _ _ h=>h) ⟨_,hS114⟩ (l':=[(47,nI (q78.next)),(43,nI x63),(42,.slice p71 L60.length c72),(10,nI x63),(9,.slice p71 L60.length c72),(0,nP b0 0)]) (by kernel_rfl) ?_
   intro a116 hF115; clear hF113
   refine any_one 2 (by kernel_rfl) ?_
   have hS117:St w0 F0 (RowP (.slice (some ⟨(w100.drew).heap.size,0,none⟩) 1 1) [x63]::BlkP (w83.heap.size) 54 #[nI (q78.gor),nI (q78.chan),nI (q78.value),nI (q78.next),nI (q78.to),nI (q78.reg),nI (q78.more)]::RHeapP b0 ab0 sb0 g0 cb0 s80::RowP (.slice p71 L60.length c72) L60::ps) ((w100.drew).alloc (.cells #[nI x63] 3)):=St.lit hS114 [x63] (by unfold maxLen; simp)
   clear hS114
   refine op_step 2 #[true,true,true,false,true,true,false,false] (.slice (some ⟨(w100.drew).heap.size,0,none⟩) 1 1) ((w100.drew).alloc (.cells #[nI x63] 3)) hF115 rfl (by kernel_rfl) rfl (by kernel_rfl) (by kernel_rfl) (l':=[(44,.slice (some ⟨(w100.drew).heap.size,0,none⟩) 1 1),(47,nI (q78.next)),(43,nI x63),(42,.slice p71 L60.length c72),(10,nI x63),(9,.slice p71 L60.length c72),(0,nP b0 0)]) (by kernel_rfl) ⟨_,hS117.pick1⟩ (by kernel_rfl) ?_
   intro a119 hF118; clear hF115
   refine any_one 3 (by kernel_rfl) ?_
   have hS120:=hS117.pick3
   clear hS117
   obtain ⟨L121,hx122,hm123⟩:=bind1E hm112; clear hm112
   refine op_push 22 rfl 3 #[true,true,true,true,true,true,false,false] 45 (.tmp 42) (.tmp 44) hF118 rfl rfl rfl rfl rfl rfl rfl rfl rfl hS120 hx122 (by kernel_rfl) ?_
   intro g124 c125 w126 a127 hS128 hF129; clear hF118 hS120
   refine ⟨⟨_,hS128.pick2⟩,?_⟩
   refine any_many 2 [(6,some (nS g124 L121 c125)),(7,some (nI (q78.next)))] [0,9,10] #[true,true,true,true,true,true,true,true] (by rfl) hF129 (by kernel_rfl) (by kernel_rfl) (by exact ⟨fun wS hw=>by kernel_rfl,fun wS hw=>by kernel_rfl,trivial⟩) (fun _ _ _ _ _ h=>h) ⟨_,hS128.pick2⟩ (l':=[(10,nI (q78.next)),(9,nS g124 L121 c125),(0,nP b0 0)]) (by kernel_rfl) ?_
   intro a131 hF130; clear hF129
   refine any_done (by kernel_rfl) ?_
   have hS132:=hS128.pick1.drop.pick1.drop
   clear hS128
   refine blockN ?_
   exact thenN ⟨k64,Nat.lt_succ_self _,nS g124 L121 c125,L121,s80,q78.next,hF130,hS132,hm123⟩
 · skip
   refine wp_region_lit ?_
   refine ev_runs 3 hF95 (l':=[(36,.bool (x79 != 0)),(35,.bool (x79 != 0)),(34,nI x79),(13,nI x79),(12,nB w83),(10,nI x63),(9,.slice p71 L60.length c72),(0,nP b0 0)]) (w':=w91) (by kernel_rfl) ?_
   intro a134 hF133; clear hF95
   cases hc135:(x79 != 0)
   case true =>
    rw [hc135] at hF133
    have hm136:=ifYes hc135 hm82; clear hm82
    refine ev_runK 4 hF133 [0,9,10,12,40] (l':=[(40,.bool true),(12,nB w83),(10,nI x63),(9,.slice p71 L60.length c72),(0,nP b0 0)]) (w':=w91) (by kernel_rfl) ?_
    intro a138 hF137; clear hF133
    refine wpList_nil ?_
    exact thenN ⟨true,hF137,hS93,hm136⟩
   rw [hc135] at hF133
   have hm139:=ifNot hc135 hm82; clear hm82
   refine ev_runs 2 hF133 (l':=[(38,nI x63),(37,.slice p71 L60.length c72),(36,.bool false),(35,.bool false),(34,nI x79),(13,nI x79),(12,nB w83),(10,nI x63),(9,.slice p71 L60.length c72),(0,nP b0 0)]) (w':=w91) (by kernel_rfl) ?_
   intro a141 hF140; clear hF133
   have hS142:=hS93.pick2
   clear hS93
   refine ev_call 155 #[.slice p71 L60.length c72,nI x63] hF140 rfl rfl (by kernel_rfl) rfl (by kernel_rfl) (fun w=>by kernel_rfl) ?_
   obtain ⟨y143,hx144,hm145⟩:=bind1E hm139; clear hm139
   refine (help_In.ok hS142 hx144).mono ?_
   rintro _ w146 ⟨rfl,hS148⟩ a147 hF149; clear hF140 hS142
   refine ev_runK 1 hF149 [0,9,10,12,40] (l':=[(40,.bool (y143)),(12,nB w83),(10,nI x63),(9,.slice p71 L60.length c72),(0,nP b0 0)]) (w':=w146) (by kernel_rfl) ?_
   intro a151 hF150; clear hF149
   refine wpList_nil ?_
   have hS152:=hS148.pick2.pick2
   clear hS148
   exact thenN ⟨y143,hF150,hS152,hm145⟩
def ref11_Push.j1 (i1:Int) (i2:Bool) (i3:Int) (k:Nat) (q5:Ch) (s94:HSt) (x95:Int):Option (Int×HSt):=bind1 (ref11_next.m k s94 i3 (-1)) fun s105=>bind1 (ref11_turned.m k (⟨q5.cap,q5.closed,q5.count,q5.start,q5.buf,q5.th,q5.tt,q5.sh,q5.st⟩:Ch) (i2) x95 i3) fun q119=>bind2 (ref11_PutChan.m k s105 i1 (⟨q119.cap,q119.closed,q119.count,q119.start,q119.buf,q119.th,q119.tt,q119.sh,q119.st⟩:Ch)) fun x126 s127=>some (x126,s127)
def ref11_Push.m (k:Nat) (s0:HSt) (i1:Int) (i2:Bool) (i3:Int):Option (Int×HSt):=bind3 (ref11_Chan.m k s0 i1) fun q5 x6 s7=>(if (x6 != 0) then some (x6,s7) else bind3 (ref11_Sudog.m k s7 i3) fun q38 x39 s40=>(if (x39 != 0) then some (x39,s40) else bind2 (ref11_ends.m k (⟨q5.cap,q5.closed,q5.count,q5.start,q5.buf,q5.th,q5.tt,q5.sh,q5.st⟩:Ch) (i2)) fun x64 x65=>bind2 (ref11_AllList.m k s40 i1 (i2)) fun L76 s77=>(if ((L76.length:Int) == 0) then ref11_Push.j1 i1 i2 i3 k q5 s77 i3 else (if (inR (IntKind.i64.wrap ((L76.length:Int) - 1)) L76.length) then bind1 (ref11_next.m k s77 (atI L76 (IntKind.i64.wrap ((L76.length:Int) - 1))) i3) fun s156=>ref11_Push.j1 i1 i2 i3 k q5 s156 x64 else none))))
theorem ref11_Push.ok {w0 w:World} {F0:List Nat} {ps:List Piece} {k:Nat} {b0 ab0 sb0 g0 cb0:Nat} {s0:HSt} {i1:Int} {i2:Bool} {i3:Int} {r0:Int} {t0:HSt} (hS:St w0 F0 (RHeapP b0 ab0 sb0 g0 cb0 s0::ps) w) (hm:ref11_Push.m k s0 i1 i2 i3=some (r0,t0)) :
    Calls Tryz.prog 85 #[nP b0 0,nI i1,.bool (i2),nI i3] w fun e w'=>e=.returned (.int .i64 r0)∧St w0 F0 (RHeapP b0 ab0 sb0 g0 cb0 t0::ps) w':=by
 refine ev_enterL 66 [nP b0 0,nI i1,.bool (i2),nI i3] Tryz.func85 rfl rfl (by simp) ?_
 intro a hF
 have hF0:Fr 66 a [(0,nP b0 0),(1,nI i1),(2,.bool (i2)),(3,nI i3)]:=hF; clear hF
 unfold ref11_Push.m at hm
 refine wp_seq (wp_region_lit ?_)
 refine ev_runK 1 hF0 [0,1,2,3] (l':=[(0,nP b0 0),(1,nI i1),(2,.bool (i2)),(3,nI i3)]) (w':=w) (by kernel_rfl) ?_
 intro a2 hF1; clear hF0
 refine wpList_nil (thenN (wp_seq (wp_region_lit ?_)))
 refine ev_runs 2 hF1 (l':=[(16,nI i1),(15,nP b0 0),(0,nP b0 0),(1,nI i1),(2,.bool (i2)),(3,nI i3)]) (w':=w) (by kernel_rfl) ?_
 intro a4 hF3; clear hF1
 refine ev_call 96 #[nP b0 0,nI i1] hF3 rfl rfl (by kernel_rfl) rfl (by kernel_rfl) (fun w=>by kernel_rfl) ?_
 obtain ⟨q5,x6,s7,hx8,hm9⟩:=bind3E hm; clear hm
 refine (ref11_Chan.ok hS hx8).mono ?_
 rintro _ w10 ⟨rfl,hS12⟩ a11 hF13; clear hF3 hS
 refine ev_runs 4 hF13 (l':=[(9,nB w10),(19,nI x6),(18,.agg #[nI (q5.cap),nI (q5.closed),nI (q5.count),nI (q5.start),nI (q5.buf),nI (q5.th),nI (q5.tt),nI (q5.sh),nI (q5.st)]),(14,.tuple #[.agg #[nI (q5.cap),nI (q5.closed),nI (q5.count),nI (q5.start),nI (q5.buf),nI (q5.th),nI (q5.tt),nI (q5.sh),nI (q5.st)],nI x6]),(17,.tuple #[.agg #[nI (q5.cap),nI (q5.closed),nI (q5.count),nI (q5.start),nI (q5.buf),nI (q5.th),nI (q5.tt),nI (q5.sh),nI (q5.st)],nI x6]),(16,nI i1),(15,nP b0 0),(0,nP b0 0),(1,nI i1),(2,.bool (i2)),(3,nI i3)]) (w':=w10.alloc (.cells #[nI 0,nI 0,nI 0,nI 0,nI 0,nI 0,nI 0,nI 0,nI 0] 37)) (by kernel_rfl) ?_
 intro a15 hF14; clear hF13
 have hS17:St w0 F0 (BlkP (w10.heap.size) 37 #[nI 0,nI 0,nI 0,nI 0,nI 0,nI 0,nI 0,nI 0,nI 0]::RHeapP b0 ab0 sb0 g0 cb0 s7::ps) (w10.alloc (.cells #[nI 0,nI 0,nI 0,nI 0,nI 0,nI 0,nI 0,nI 0,nI 0] 37)):=St.new hS12 #[nI 0,nI 0,nI 0,nI 0,nI 0,nI 0,nI 0,nI 0,nI 0] 37
 clear hS12
 refine ev_store (.agg #[nI (q5.cap),nI (q5.closed),nI (q5.count),nI (q5.start),nI (q5.buf),nI (q5.th),nI (q5.tt),nI (q5.sh),nI (q5.st)]) #[nI (q5.cap),nI (q5.closed),nI (q5.count),nI (q5.start),nI (q5.buf),nI (q5.th),nI (q5.tt),nI (q5.sh),nI (q5.st)] hF14 (by kernel_rfl) rfl rfl rfl rfl (by kernel_rfl) hS17 (by kernel_rfl) (by kernel_rfl) (by kernel_rfl) (l':=[(9,nB w10),(19,nI x6),(18,.agg #[nI (q5.cap),nI (q5.closed),nI (q5.count),nI (q5.start),nI (q5.buf),nI (q5.th),nI (q5.tt),nI (q5.sh),nI (q5.st)]),(14,.tuple #[.agg #[nI (q5.cap),nI (q5.closed),nI (q5.count),nI (q5.start),nI (q5.buf),nI (q5.th),nI (q5.tt),nI (q5.sh),nI (q5.st)],nI x6]),(17,.tuple #[.agg #[nI (q5.cap),nI (q5.closed),nI (q5.count),nI (q5.start),nI (q5.buf),nI (q5.th),nI (q5.tt),nI (q5.sh),nI (q5.st)],nI x6]),(16,nI i1),(15,nP b0 0),(0,nP b0 0),(1,nI i1),(2,.bool (i2)),(3,nI i3)]) (by kernel_rfl) ?_
 intro w18 a19 hS20 hF21; clear hF14 hS17
 refine ev_runK 1 hF21 [0,1,2,3,9,10] (l':=[(10,nI x6),(9,nB w10),(0,nP b0 0),(1,nI i1),(2,.bool (i2)),(3,nI i3)]) (w':=w18) (by kernel_rfl) ?_
 intro a23 hF22; clear hF21
 refine wpList_nil (thenN (wp_seq (wp_seq (wp_region_lit ?_))))
 refine ev_runK 2 hF22 [0,1,2,3,9,10,21] (l':=[(21,.bool (x6 != 0)),(10,nI x6),(9,nB w10),(0,nP b0 0),(1,nI i1),(2,.bool (i2)),(3,nI i3)]) (w':=w18) (by kernel_rfl) ?_
 intro a25 hF24; clear hF22
 refine wpList_nil (thenN ?_)
 cases hc26:(x6 != 0)
 case true =>
  rw [hc26] at hF24
  have hm27:=ifYes hc26 hm9; clear hm9
  refine ev_condT hF24 rfl rfl ?_
  refine wp_seq (wp_region_lit ?_)
  refine ev_runK 2 hF24 [8] (l':=[(8,nI x6)]) (w':=w18) (by kernel_rfl) ?_
  intro a29 hF28; clear hF24
  refine wpList_nil ?_
  have hS30:=hS20.drop
  clear hS20
  refine thenN ?_
  refine wp_ret ?_
  refine thenR ?_
  simp only [Option.some.injEq,Prod.mk.injEq] at hm27
  obtain ⟨rfl,rfl⟩:=hm27
  refine ev_ret hF28 [8] (nI x6) rfl rfl rfl ?_
  exact ⟨rfl,hS30⟩
 rw [hc26] at hF24
 have hm33:=ifNot hc26 hm9; clear hm9
 refine ev_condF hF24 rfl rfl ?_
 refine wp_skip ?_
 have hF34:=hF24.keep [0,1,2,3,9]
 clear hF24
 refine thenN (wp_seq (wp_region_lit ?_))
 refine ev_runs 2 hF34 (l':=[(25,nI i3),(24,nP b0 0),(9,nB w10),(0,nP b0 0),(1,nI i1),(2,.bool (i2)),(3,nI i3)]) (w':=w18) (by kernel_rfl) ?_
 intro a36 hF35; clear hF34
 have hS37:=hS20.pick1
 clear hS20
 refine ev_call 124 #[nP b0 0,nI i3] hF35 rfl rfl (by kernel_rfl) rfl (by kernel_rfl) (fun w=>by kernel_rfl) ?_
 obtain ⟨q38,x39,s40,hx41,hm42⟩:=bind3E hm33; clear hm33
 refine (ref11_Sudog.ok hS37 hx41).mono ?_
 rintro _ w43 ⟨rfl,hS45⟩ a44 hF46; clear hF35 hS37
 refine ev_runK 4 hF46 [0,1,2,3,9,10] (l':=[(10,nI x39),(9,nB w10),(0,nP b0 0),(1,nI i1),(2,.bool (i2)),(3,nI i3)]) (w':=w43) (by kernel_rfl) ?_
 intro a48 hF47; clear hF46
 refine wpList_nil (thenN (wp_seq (wp_seq (wp_region_lit ?_))))
 refine ev_runK 2 hF47 [0,1,2,3,9,10,30] (l':=[(30,.bool (x39 != 0)),(10,nI x39),(9,nB w10),(0,nP b0 0),(1,nI i1),(2,.bool (i2)),(3,nI i3)]) (w':=w43) (by kernel_rfl) ?_
 intro a50 hF49; clear hF47
 refine wpList_nil (thenN ?_)
 cases hc51:(x39 != 0)
 case true =>
  rw [hc51] at hF49
  have hm52:=ifYes hc51 hm42; clear hm42
  refine ev_condT hF49 rfl rfl ?_
  refine wp_seq (wp_region_lit ?_)
  refine ev_runK 2 hF49 [8] (l':=[(8,nI x39)]) (w':=w43) (by kernel_rfl) ?_
  intro a54 hF53; clear hF49
  refine wpList_nil ?_
  have hS55:=hS45.pick1.drop
  clear hS45
  refine thenN ?_
  refine wp_ret ?_
  refine thenR ?_
  simp only [Option.some.injEq,Prod.mk.injEq] at hm52
  obtain ⟨rfl,rfl⟩:=hm52
  refine ev_ret hF53 [8] (nI x39) rfl rfl rfl ?_
  exact ⟨rfl,hS55⟩
 rw [hc51] at hF49
 have hm58:=ifNot hc51 hm42; clear hm42
 refine ev_condF hF49 rfl rfl ?_
 refine wp_skip ?_
 have hF59:=hF49.keep [0,1,2,3,9]
 clear hF49
 refine thenN (wp_seq (wp_region_lit ?_))
 refine ev_one (.agg #[nI (q5.cap),nI (q5.closed),nI (q5.count),nI (q5.start),nI (q5.buf),nI (q5.th),nI (q5.tt),nI (q5.sh),nI (q5.st)]) w43 hF59 (by kernel_rfl) rfl (by kernel_rfl) (run_loadV rfl rfl (run_loadA (cs:=[nI (q5.cap),nI (q5.closed),nI (q5.count),nI (q5.start),nI (q5.buf),nI (q5.th),nI (q5.tt),nI (q5.sh),nI (q5.st)]) rfl rfl (by kernel_rfl) (blk_cells hS45 1 rfl rfl))) (l':=[(33,.agg #[nI (q5.cap),nI (q5.closed),nI (q5.count),nI (q5.start),nI (q5.buf),nI (q5.th),nI (q5.tt),nI (q5.sh),nI (q5.st)]),(9,nB w10),(0,nP b0 0),(1,nI i1),(2,.bool (i2)),(3,nI i3)]) (by kernel_rfl) ?_
 intro a61 hF60; clear hF59
 refine ev_runs 1 hF60 (l':=[(34,.bool (i2)),(33,.agg #[nI (q5.cap),nI (q5.closed),nI (q5.count),nI (q5.start),nI (q5.buf),nI (q5.th),nI (q5.tt),nI (q5.sh),nI (q5.st)]),(9,nB w10),(0,nP b0 0),(1,nI i1),(2,.bool (i2)),(3,nI i3)]) (w':=w43) (by kernel_rfl) ?_
 intro a63 hF62; clear hF60
 refine ev_call 125 #[.agg #[nI (q5.cap),nI (q5.closed),nI (q5.count),nI (q5.start),nI (q5.buf),nI (q5.th),nI (q5.tt),nI (q5.sh),nI (q5.st)],.bool (i2)] hF62 rfl rfl (by kernel_rfl) rfl (by kernel_rfl) (fun w=>by kernel_rfl) ?_
 obtain ⟨x64,x65,hx66,hm67⟩:=bind2E hm58; clear hm58
 refine (ref11_ends.ok hS45 hx66).mono ?_
 rintro _ w68 ⟨rfl,hS70⟩ a69 hF71; clear hF62 hS45
 refine ev_runK 5 hF71 [0,1,2,3,9,11] (l':=[(11,nI x64),(9,nB w10),(0,nP b0 0),(1,nI i1),(2,.bool (i2)),(3,nI i3)]) (w':=w68) (by kernel_rfl) ?_
 intro a73 hF72; clear hF71
 refine wpList_nil (thenN (wp_seq (wp_region_lit ?_)))
 refine ev_runs 3 hF72 (l':=[(40,.bool (i2)),(39,nI i1),(38,nP b0 0),(11,nI x64),(9,nB w10),(0,nP b0 0),(1,nI i1),(2,.bool (i2)),(3,nI i3)]) (w':=w68) (by kernel_rfl) ?_
 intro a75 hF74; clear hF72
 refine ev_call 126 #[nP b0 0,nI i1,.bool (i2)] hF74 rfl rfl (by kernel_rfl) rfl (by kernel_rfl) (fun w=>by kernel_rfl) ?_
 obtain ⟨L76,s77,hx78,hm79⟩:=bind2E hm67; clear hm67
 refine (ref11_AllList.ok hS70 hx78).mono ?_
 rintro _ w80 ⟨z84,rfl,hS82⟩ a81 hF83; clear hF74 hS70
 obtain ⟨hl89,p86,c87,rfl,hp88⟩:=St.shape hS82 1 rfl
 refine ev_runK 1 hF83 [0,1,2,3,9,11,13] (l':=[(13,.slice p86 L76.length c87),(11,nI x64),(9,nB w10),(0,nP b0 0),(1,nI i1),(2,.bool (i2)),(3,nI i3)]) (w':=w80) (by kernel_rfl) ?_
 intro a91 hF90; clear hF83
 refine wpList_nil (thenN (wp_seq (wp_seq (wp_region_lit ?_))))
 refine ev_runK 3 hF90 [0,1,2,3,9,11,13,44] (l':=[(44,.bool ((L76.length:Int) == 0)),(13,.slice p86 L76.length c87),(11,nI x64),(9,nB w10),(0,nP b0 0),(1,nI i1),(2,.bool (i2)),(3,nI i3)]) (w':=w80) (by kernel_rfl) ?_
 intro a93 hF92; clear hF90
 refine wpList_nil (thenN ?_)
 refine joinQ (fun aI wI=>∃ (s94:HSt) (x95:Int),Fr 66 aI [(11,nI x95),(9,nB w10),(0,nP b0 0),(1,nI i1),(2,.bool (i2)),(3,nI i3)]∧St w0 F0 (RHeapP b0 ab0 sb0 g0 cb0 s94::BlkP (w10.heap.size) 37 #[nI (q5.cap),nI (q5.closed),nI (q5.count),nI (q5.start),nI (q5.buf),nI (q5.th),nI (q5.tt),nI (q5.sh),nI (q5.st)]::ps) wI∧ref11_Push.j1 i1 i2 i3 k q5 s94 x95=some (r0,t0)) ?_ ?_
 rotate_left
 · rintro a97 w98 ⟨s94,x95,hF99,hS100,hm101⟩
   clear hF92 hS82 hm79
   unfold ref11_Push.j1 at hm101
   refine thenN (wp_seq (wp_region_lit ?_))
   refine ev_runs 2 hF99 (l':=[(56,nI i3),(55,nP b0 0),(11,nI x95),(9,nB w10),(0,nP b0 0),(1,nI i1),(2,.bool (i2)),(3,nI i3)]) (w':=w98) (by kernel_rfl) ?_
   intro a104 hF103; clear hF99
   refine ev_call 127 #[nP b0 0,nI i3,nI (-1)] hF103 rfl rfl (by kernel_rfl) rfl (by kernel_rfl) (fun w=>by kernel_rfl) ?_
   obtain ⟨s105,hx106,hm107⟩:=bind1E hm101; clear hm101
   refine (ref11_next.ok hS100 hx106).mono ?_
   rintro _ w108 ⟨rfl,hS110⟩ a109 hF111; clear hF103 hS100
   refine wpList_nil ?_
   have hF112:=hF111.keep [0,1,2,3,9,11]
   clear hF111
   refine thenN (wp_seq (wp_region_lit ?_))
   refine ev_runs 2 hF112 (l':=[(59,nI i1),(58,nP b0 0),(11,nI x95),(9,nB w10),(0,nP b0 0),(1,nI i1),(2,.bool (i2)),(3,nI i3)]) (w':=w108) (by kernel_rfl) ?_
   intro a114 hF113; clear hF112
   refine ev_one (.agg #[nI (q5.cap),nI (q5.closed),nI (q5.count),nI (q5.start),nI (q5.buf),nI (q5.th),nI (q5.tt),nI (q5.sh),nI (q5.st)]) w108 hF113 (by kernel_rfl) rfl (by kernel_rfl) (run_loadV rfl rfl (run_loadA (cs:=[nI (q5.cap),nI (q5.closed),nI (q5.count),nI (q5.start),nI (q5.buf),nI (q5.th),nI (q5.tt),nI (q5.sh),nI (q5.st)]) rfl rfl (by kernel_rfl) (blk_cells hS110 1 rfl rfl))) (l':=[(60,.agg #[nI (q5.cap),nI (q5.closed),nI (q5.count),nI (q5.start),nI (q5.buf),nI (q5.th),nI (q5.tt),nI (q5.sh),nI (q5.st)]),(59,nI i1),(58,nP b0 0),(11,nI x95),(9,nB w10),(0,nP b0 0),(1,nI i1),(2,.bool (i2)),(3,nI i3)]) (by kernel_rfl) ?_
   intro a116 hF115; clear hF113
   refine ev_runs 3 hF115 (l':=[(63,nI i3),(62,nI x95),(61,.bool (i2)),(60,.agg #[nI (q5.cap),nI (q5.closed),nI (q5.count),nI (q5.start),nI (q5.buf),nI (q5.th),nI (q5.tt),nI (q5.sh),nI (q5.st)]),(59,nI i1),(58,nP b0 0),(11,nI x95),(9,nB w10),(0,nP b0 0),(1,nI i1),(2,.bool (i2)),(3,nI i3)]) (w':=w108) (by kernel_rfl) ?_
   intro a118 hF117; clear hF115
   refine ev_call 128 #[.agg #[nI (q5.cap),nI (q5.closed),nI (q5.count),nI (q5.start),nI (q5.buf),nI (q5.th),nI (q5.tt),nI (q5.sh),nI (q5.st)],.bool (i2),nI x95,nI i3] hF117 rfl rfl (by kernel_rfl) rfl (by kernel_rfl) (fun w=>by kernel_rfl) ?_
   obtain ⟨q119,hx120,hm121⟩:=bind1E hm107; clear hm107
   refine (ref11_turned.ok hS110 hx120).mono ?_
   rintro _ w122 ⟨rfl,hS124⟩ a123 hF125; clear hF117 hS110
   refine ev_call 62 #[nP b0 0,nI i1,.agg #[nI (q119.cap),nI (q119.closed),nI (q119.count),nI (q119.start),nI (q119.buf),nI (q119.th),nI (q119.tt),nI (q119.sh),nI (q119.st)]] hF125 rfl rfl (by kernel_rfl) rfl (by kernel_rfl) (fun w=>by kernel_rfl) ?_
   obtain ⟨x126,s127,hx128,hm129⟩:=bind2E hm121; clear hm121
   refine (ref11_PutChan.ok hS124 hx128).mono ?_
   rintro _ w130 ⟨rfl,hS132⟩ a131 hF133; clear hF125 hS124
   refine ev_runK 1 hF133 [8] (l':=[(8,nI x126)]) (w':=w130) (by kernel_rfl) ?_
   intro a135 hF134; clear hF133
   refine wpList_nil ?_
   have hS136:=hS132.pick1.drop
   clear hS132
   refine thenN ?_
   refine wp_ret ?_
   simp only [Option.some.injEq,Prod.mk.injEq] at hm129
   obtain ⟨rfl,rfl⟩:=hm129
   refine ev_ret hF134 [8] (nI x126) rfl rfl rfl ?_
   exact ⟨rfl,hS136⟩
 · skip
   cases hc139:((L76.length:Int) == 0)
   case true =>
    rw [hc139] at hF92
    have hm140:=ifYes hc139 hm79; clear hm79
    refine ev_condT hF92 rfl rfl ?_
    refine wp_region_lit ?_
    refine ev_runK 2 hF92 [0,1,2,3,9,11] (l':=[(11,nI i3),(9,nB w10),(0,nP b0 0),(1,nI i1),(2,.bool (i2)),(3,nI i3)]) (w':=w80) (by kernel_rfl) ?_
    intro a142 hF141; clear hF92
    refine wpList_nil ?_
    have hS143:=hS82.pick1.drop
    clear hS82
    exact thenN ⟨s77,i3,hF141,hS143,hm140⟩
   rw [hc139] at hF92
   have hm144:=ifNot hc139 hm79; clear hm79
   refine ev_condF hF92 rfl rfl ?_
   refine wp_region_lit ?_
   refine ev_runs 5 hF92 (l':=[(50,nI (IntKind.i64.wrap ((L76.length:Int) - 1))),(49,nI ((L76.length:Int))),(48,.slice p86 L76.length c87),(47,.slice p86 L76.length c87),(46,nP b0 0),(44,.bool false),(13,.slice p86 L76.length c87),(11,nI x64),(9,nB w10),(0,nP b0 0),(1,nI i1),(2,.bool (i2)),(3,nI i3)]) (w':=w80) (by kernel_rfl) ?_
   intro a146 hF145; clear hF92
   obtain ⟨hc147,hm148⟩:=ifTE hm144; clear hm144
   obtain ⟨g149,rfl⟩:=hp88.resolve_left (by have:=inR_spec hc147; omega)
   refine ev_one (nP g149 ((IntKind.i64.wrap ((L76.length:Int) - 1)).toNat)) w80 hF145 (by kernel_rfl) rfl (by kernel_rfl) (run_idx rfl rfl rfl rfl rfl (inR_spec hc147).1 (inR_spec hc147).2 _) (l':=[(51,nP g149 ((IntKind.i64.wrap ((L76.length:Int) - 1)).toNat)),(50,nI (IntKind.i64.wrap ((L76.length:Int) - 1))),(49,nI ((L76.length:Int))),(48,nS g149 L76 c87),(47,nS g149 L76 c87),(46,nP b0 0),(44,.bool false),(13,nS g149 L76 c87),(11,nI x64),(9,nB w10),(0,nP b0 0),(1,nI i1),(2,.bool (i2)),(3,nI i3)]) (by kernel_rfl) ?_
   intro a151 hF150; clear hF145
   refine ev_one (nI (atI L76 (IntKind.i64.wrap ((L76.length:Int) - 1)))) w80 hF150 (by kernel_rfl) rfl (by kernel_rfl) (run_load1 rfl rfl rfl (hS82.atI 1 rfl hc147)) (l':=[(52,nI (atI L76 (IntKind.i64.wrap ((L76.length:Int) - 1)))),(51,nP g149 ((IntKind.i64.wrap ((L76.length:Int) - 1)).toNat)),(50,nI (IntKind.i64.wrap ((L76.length:Int) - 1))),(49,nI ((L76.length:Int))),(48,nS g149 L76 c87),(47,nS g149 L76 c87),(46,nP b0 0),(44,.bool false),(13,nS g149 L76 c87),(11,nI x64),(9,nB w10),(0,nP b0 0),(1,nI i1),(2,.bool (i2)),(3,nI i3)]) (by kernel_rfl) ?_
   intro a153 hF152; clear hF150
   refine ev_runs 1 hF152 (l':=[(53,nI i3),(52,nI (atI L76 (IntKind.i64.wrap ((L76.length:Int) - 1)))),(51,nP g149 ((IntKind.i64.wrap ((L76.length:Int) - 1)).toNat)),(50,nI (IntKind.i64.wrap ((L76.length:Int) - 1))),(49,nI ((L76.length:Int))),(48,nS g149 L76 c87),(47,nS g149 L76 c87),(46,nP b0 0),(44,.bool false),(13,nS g149 L76 c87),(11,nI x64),(9,nB w10),(0,nP b0 0),(1,nI i1),(2,.bool (i2)),(3,nI i3)]) (w':=w80) (by kernel_rfl) ?_
   intro a155 hF154; clear hF152
   refine ev_call 127 #[nP b0 0,nI (atI L76 (IntKind.i64.wrap ((L76.length:Int) - 1))),nI i3] hF154 rfl rfl (by kernel_rfl) rfl (by kernel_rfl) (fun w=>by kernel_rfl) ?_
   obtain ⟨s156,hx157,hm158⟩:=bind1E hm148; clear hm148
   refine (ref11_next.ok hS82 hx157).mono ?_
   rintro _ w159 ⟨rfl,hS161⟩ a160 hF162; clear hF154 hS82
   refine wpList_nil ?_
   have hF163:=hF162.keep [0,1,2,3,9,11]
   clear hF162
   have hS164:=hS161.pick1.drop
   clear hS161
   exact thenN ⟨s156,x64,hF163,hS164,hm158⟩
def ref11_Park.j8 (L2:List Int) (k:Nat) (x103:Int) (rec106:HSt→Int→Option (Int×HSt)) (q126:Su) (s128:HSt) (x154:Int):Option (Int×HSt):=bind2 (ref11_PutSudog.m k s128 (atI L2 x103) (⟨q126.gor,q126.chan,q126.value,q126.next,q126.to,q126.reg,x154⟩:Su)) fun x167 s168=>rec106 s168 (IntKind.i64.wrap (x103+1))
def ref11_Park.j9 (i1:Int) (k:Nat) (q9:Gr) (s102:HSt) (x202:Int):Option (Int×HSt):=bind2 (ref11_PutGor.m k s102 i1 (⟨q9.id,1,q9.pc,q9.a,q9.b,q9.c,q9.d,q9.e,q9.f,x202⟩:Gr)) fun x215 s216=>some (x215,s216)
def ref11_Park.l7b (i1:Int) (L2:List Int) (k:Nat) (q9:Gr) (rec106:HSt→Int→Option (Int×HSt)) (s102:HSt) (x103:Int):Option (Int×HSt):=(if (decide (x103<(L2.length:Int))) then (if (inR x103 L2.length) then bind3 (ref11_Sudog.m k s102 (atI L2 x103)) fun q126 x127 s128=>(if (decide ((IntKind.i64.wrap (x103+1))<(L2.length:Int))) then (if (inR (IntKind.i64.wrap (x103+1)) L2.length) then ref11_Park.j8 L2 k x103 rec106 q126 s128 (atI L2 (IntKind.i64.wrap (x103+1))) else none) else ref11_Park.j8 L2 k x103 rec106 q126 s128 (-1)) else none) else (if (decide ((L2.length:Int) > 0)) then (if (inR (0:Int) L2.length) then ref11_Park.j9 i1 k q9 s102 (atI L2 (0:Int)) else none) else ref11_Park.j9 i1 k q9 s102 (-1)))
def ref11_Park.l7 (i1:Int) (L2:List Int) (k:Nat) (q9:Gr):Nat→HSt→Int→Option (Int×HSt)
  | 0=>fun _ _=>none
  | kI+1=>ref11_Park.l7b i1 L2 k q9 (ref11_Park.l7 i1 L2 k q9 kI)
def ref11_Park.j4 (i1:Int) (L2:List Int) (k:Nat) (q9:Gr) (s30:HSt) (x31:Int) (x32:Int) (rec35:HSt→Int→Int→Option (Int×HSt)) (y40:Bool):Option (Int×HSt):=(if (y40) then (if (inR x31 L2.length) then bind3 (ref11_Sudog.m k s30 (atI L2 x31)) fun q61 x62 s63=>rec35 s63 (IntKind.i64.wrap (x31+1)) x62 else none) else (if (x32 != 0) then some (x32,s30) else ref11_Park.l7 i1 L2 k q9 k s30 0))
def ref11_Park.l3b (i1:Int) (L2:List Int) (k:Nat) (q9:Gr) (rec35:HSt→Int→Int→Option (Int×HSt)) (s30:HSt) (x31:Int) (x32:Int):Option (Int×HSt):=(if (decide (x31<(L2.length:Int))) then ref11_Park.j4 i1 L2 k q9 s30 x31 x32 rec35 (x32 == 0) else ref11_Park.j4 i1 L2 k q9 s30 x31 x32 rec35 false)
def ref11_Park.l3 (i1:Int) (L2:List Int) (k:Nat) (q9:Gr):Nat→HSt→Int→Int→Option (Int×HSt)
  | 0=>fun _ _ _=>none
  | kI+1=>ref11_Park.l3b i1 L2 k q9 (ref11_Park.l3 i1 L2 k q9 kI)
def ref11_Park.m (k:Nat) (s0:HSt) (i1:Int) (L2:List Int):Option (Int×HSt):=bind3 (ref11_Gor.m k s0 i1) fun q9 x10 s11=>ref11_Park.l3 i1 L2 k q9 k s11 0 x10
theorem ref11_Park.ok {w0 w:World} {F0:List Nat} {ps:List Piece} {k:Nat} {b0 ab0 sb0 g0 cb0:Nat} {s0:HSt} {i1:Int} {v2:Value} {L2:List Int} {r0:Int} {t0:HSt} (hS:St w0 F0 (RHeapP b0 ab0 sb0 g0 cb0 s0::RowP (v2) L2::ps) w) (hm:ref11_Park.m k s0 i1 L2=some (r0,t0)) :
    Calls Tryz.prog 86 #[nP b0 0,nI i1,v2] w fun e w'=>e=.returned (.int .i64 r0)∧St w0 F0 (RHeapP b0 ab0 sb0 g0 cb0 t0::RowP (v2) L2::ps) w':=by
 refine ev_enterL 88 [nP b0 0,nI i1,v2] Tryz.func86 rfl rfl (by simp) ?_
 intro a hF
 have hF0:Fr 88 a [(0,nP b0 0),(1,nI i1),(2,v2)]:=hF; clear hF
 unfold ref11_Park.m at hm
 obtain ⟨hl4,p1,c2,rfl,hp3⟩:=St.shape hS 1 rfl
 refine wp_seq (wp_region_lit ?_)
 refine ev_runK 1 hF0 [0,1,2] (l':=[(0,nP b0 0),(1,nI i1),(2,.slice p1 L2.length c2)]) (w':=w) (by kernel_rfl) ?_
 intro a6 hF5; clear hF0
 refine wpList_nil (thenN (wp_seq (wp_region_lit ?_)))
 refine ev_runs 2 hF5 (l':=[(15,nI i1),(14,nP b0 0),(0,nP b0 0),(1,nI i1),(2,.slice p1 L2.length c2)]) (w':=w) (by kernel_rfl) ?_
 intro a8 hF7; clear hF5
 refine ev_call 84 #[nP b0 0,nI i1] hF7 rfl rfl (by kernel_rfl) rfl (by kernel_rfl) (fun w=>by kernel_rfl) ?_
 obtain ⟨q9,x10,s11,hx12,hm13⟩:=bind3E hm; clear hm
 refine (ref11_Gor.ok hS hx12).mono ?_
 rintro _ w14 ⟨rfl,hS16⟩ a15 hF17; clear hF7 hS
 refine ev_runs 4 hF17 (l':=[(7,nB w14),(18,nI x10),(17,.agg #[nI (q9.id),nI (q9.status),nI (q9.pc),nI (q9.a),nI (q9.b),nI (q9.c),nI (q9.d),nI (q9.e),nI (q9.f),nI (q9.sudogs)]),(13,.tuple #[.agg #[nI (q9.id),nI (q9.status),nI (q9.pc),nI (q9.a),nI (q9.b),nI (q9.c),nI (q9.d),nI (q9.e),nI (q9.f),nI (q9.sudogs)],nI x10]),(16,.tuple #[.agg #[nI (q9.id),nI (q9.status),nI (q9.pc),nI (q9.a),nI (q9.b),nI (q9.c),nI (q9.d),nI (q9.e),nI (q9.f),nI (q9.sudogs)],nI x10]),(15,nI i1),(14,nP b0 0),(0,nP b0 0),(1,nI i1),(2,.slice p1 L2.length c2)]) (w':=w14.alloc (.cells #[nI 0,nI 0,nI 0,nI 0,nI 0,nI 0,nI 0,nI 0,nI 0,nI 0] 70)) (by kernel_rfl) ?_
 intro a19 hF18; clear hF17
 have hS21:St w0 F0 (BlkP (w14.heap.size) 70 #[nI 0,nI 0,nI 0,nI 0,nI 0,nI 0,nI 0,nI 0,nI 0,nI 0]::RHeapP b0 ab0 sb0 g0 cb0 s11::RowP (.slice p1 L2.length c2) L2::ps) (w14.alloc (.cells #[nI 0,nI 0,nI 0,nI 0,nI 0,nI 0,nI 0,nI 0,nI 0,nI 0] 70)):=St.new hS16 #[nI 0,nI 0,nI 0,nI 0,nI 0,nI 0,nI 0,nI 0,nI 0,nI 0] 70
 clear hS16
 refine ev_store (.agg #[nI (q9.id),nI (q9.status),nI (q9.pc),nI (q9.a),nI (q9.b),nI (q9.c),nI (q9.d),nI (q9.e),nI (q9.f),nI (q9.sudogs)]) #[nI (q9.id),nI (q9.status),nI (q9.pc),nI (q9.a),nI (q9.b),nI (q9.c),nI (q9.d),nI (q9.e),nI (q9.f),nI (q9.sudogs)] hF18 (by kernel_rfl) rfl rfl rfl rfl (by kernel_rfl) hS21 (by kernel_rfl) (by kernel_rfl) (by kernel_rfl) (l':=[(7,nB w14),(18,nI x10),(17,.agg #[nI (q9.id),nI (q9.status),nI (q9.pc),nI (q9.a),nI (q9.b),nI (q9.c),nI (q9.d),nI (q9.e),nI (q9.f),nI (q9.sudogs)]),(13,.tuple #[.agg #[nI (q9.id),nI (q9.status),nI (q9.pc),nI (q9.a),nI (q9.b),nI (q9.c),nI (q9.d),nI (q9.e),nI (q9.f),nI (q9.sudogs)],nI x10]),(16,.tuple #[.agg #[nI (q9.id),nI (q9.status),nI (q9.pc),nI (q9.a),nI (q9.b),nI (q9.c),nI (q9.d),nI (q9.e),nI (q9.f),nI (q9.sudogs)],nI x10]),(15,nI i1),(14,nP b0 0),(0,nP b0 0),(1,nI i1),(2,.slice p1 L2.length c2)]) (by kernel_rfl) ?_
 intro w22 a23 hS24 hF25; clear hF18 hS21
 refine ev_runK 1 hF25 [0,1,2,7,8] (l':=[(8,nI x10),(7,nB w14),(0,nP b0 0),(1,nI i1),(2,.slice p1 L2.length c2)]) (w':=w22) (by kernel_rfl) ?_
 intro a27 hF26; clear hF25
 refine wpList_nil (thenN (wp_seq (wp_seq (wp_region_lit ?_))))
 refine ev_runs 1 hF26 (l':=[(9,nI 0),(8,nI x10),(7,nB w14),(0,nP b0 0),(1,nI i1),(2,.slice p1 L2.length c2)]) (w':=w22) (by kernel_rfl) ?_
 intro a29 hF28; clear hF26
 refine wpList_nil (thenN ?_)
 refine wp_block ?_
 refine wp_loop_ghost (fun kI aI wI=>∃ (s30:HSt) (x31:Int) (x32:Int),Fr 88 aI [(9,nI x31),(8,nI x32),(7,nB w14),(0,nP b0 0),(1,nI i1),(2,.slice p1 L2.length c2)]∧St w0 F0 (BlkP (w14.heap.size) 70 #[nI (q9.id),nI (q9.status),nI (q9.pc),nI (q9.a),nI (q9.b),nI (q9.c),nI (q9.d),nI (q9.e),nI (q9.f),nI (q9.sudogs)]::RHeapP b0 ab0 sb0 g0 cb0 s30::RowP (.slice p1 L2.length c2) L2::ps) wI∧ref11_Park.l3 i1 L2 k q9 kI s30 x31 x32=some (r0,t0)) k ⟨s11,0,x10,hF28,hS24,hm13⟩ ?_
 rintro k33 a34 w35 ⟨s30,x31,x32,hF36,hS37,hm38⟩
 clear hF28 hS24 hm13
 rcases k33 with _ | k33
 · cases hm38
 have hm39:ref11_Park.l3b i1 L2 k q9 (ref11_Park.l3 i1 L2 k q9 k33) s30 x31 x32=some (r0,t0):=hm38
 clear hm38
 unfold ref11_Park.l3b at hm39
 refine wp_seq (wp_seq ?_)
 refine joinQ (fun aI wI=>∃ (y40:Bool),Fr 88 aI [(26,.bool (y40)),(9,nI x31),(8,nI x32),(7,nB w14),(0,nP b0 0),(1,nI i1),(2,.slice p1 L2.length c2)]∧St w0 F0 (BlkP (w14.heap.size) 70 #[nI (q9.id),nI (q9.status),nI (q9.pc),nI (q9.a),nI (q9.b),nI (q9.c),nI (q9.d),nI (q9.e),nI (q9.f),nI (q9.sudogs)]::RHeapP b0 ab0 sb0 g0 cb0 s30::RowP (.slice p1 L2.length c2) L2::ps) wI∧ref11_Park.j4 i1 L2 k q9 s30 x31 x32 (ref11_Park.l3 i1 L2 k q9 k33) y40=some (r0,t0)) ?_ ?_
 rotate_left
 · rintro a42 w43 ⟨y40,hF44,hS45,hm46⟩
   clear hF36 hS37 hm39
   unfold ref11_Park.j4 at hm46
   refine thenN ?_
   cases hc48:(y40)
   case true =>
    rw [hc48] at hF44
    have hm49:=ifYes hc48 hm46; clear hm46
    refine ev_condT hF44 rfl rfl ?_
    refine wp_skip ?_
    have hF50:=hF44.keep [0,1,2,7,9]
    clear hF44
    refine thenN (wp_seq ?_)
    refine wp_block ?_
    refine wp_region_lit ?_
    refine ev_runs 3 hF50 (l':=[(32,nI x31),(31,.slice p1 L2.length c2),(30,nP b0 0),(9,nI x31),(7,nB w14),(0,nP b0 0),(1,nI i1),(2,.slice p1 L2.length c2)]) (w':=w43) (by kernel_rfl) ?_
    intro a52 hF51; clear hF50
    obtain ⟨hc53,hm54⟩:=ifTE hm49; clear hm49
    obtain ⟨g55,rfl⟩:=hp3.resolve_left (by have:=inR_spec hc53; omega)
    refine ev_one (nP g55 (x31.toNat)) w43 hF51 (by kernel_rfl) rfl (by kernel_rfl) (run_idx rfl rfl rfl rfl rfl (inR_spec hc53).1 (inR_spec hc53).2 _) (l':=[(33,nP g55 (x31.toNat)),(32,nI x31),(31,nS g55 L2 c2),(30,nP b0 0),(9,nI x31),(7,nB w14),(0,nP b0 0),(1,nI i1),(2,nS g55 L2 c2)]) (by kernel_rfl) ?_
    intro a57 hF56; clear hF51
    refine ev_one (nI (atI L2 x31)) w43 hF56 (by kernel_rfl) rfl (by kernel_rfl) (run_load1 rfl rfl rfl (hS45.atI 2 rfl hc53)) (l':=[(34,nI (atI L2 x31)),(33,nP g55 (x31.toNat)),(32,nI x31),(31,nS g55 L2 c2),(30,nP b0 0),(9,nI x31),(7,nB w14),(0,nP b0 0),(1,nI i1),(2,nS g55 L2 c2)]) (by kernel_rfl) ?_
    intro a59 hF58; clear hF56
    have hS60:=hS45.pick1
    clear hS45
    refine ev_call 124 #[nP b0 0,nI (atI L2 x31)] hF58 rfl rfl (by kernel_rfl) rfl (by kernel_rfl) (fun w=>by kernel_rfl) ?_
    obtain ⟨q61,x62,s63,hx64,hm65⟩:=bind3E hm54; clear hm54
    refine (ref11_Sudog.ok hS60 hx64).mono ?_
    rintro _ w66 ⟨rfl,hS68⟩ a67 hF69; clear hF58 hS60
    refine ev_runK 4 hF69 [0,1,2,7,8,9] (l':=[(8,nI x62),(9,nI x31),(7,nB w14),(0,nP b0 0),(1,nI i1),(2,nS g55 L2 c2)]) (w':=w66) (by kernel_rfl) ?_
    intro a71 hF70; clear hF69
    refine wpList_nil ?_
    refine blockN ?_
    refine thenN (wp_region_lit ?_)
    refine ev_runK 3 hF70 [0,1,2,7,8,9] (l':=[(9,nI (IntKind.i64.wrap (x31+1))),(8,nI x62),(7,nB w14),(0,nP b0 0),(1,nI i1),(2,nS g55 L2 c2)]) (w':=w66) (by kernel_rfl) ?_
    intro a73 hF72; clear hF70
    refine wpList_nil ?_
    have hS74:=hS68.pick2.pick1.pick2
    clear hS68
    exact thenN ⟨k33,Nat.lt_succ_self _,s63,IntKind.i64.wrap (x31+1),x62,hF72,hS74,hm65⟩
   rw [hc48] at hF44
   have hm75:=ifNot hc48 hm46; clear hm46
   refine ev_condF hF44 rfl rfl ?_
   refine wp_exit ?_
   refine thenE ?_
   refine thenE ?_
   refine blockE ?_
   refine thenN (wp_seq (wp_seq (wp_region_lit ?_)))
   refine ev_runK 2 hF44 [0,1,2,7,8,39] (l':=[(39,.bool (x32 != 0)),(8,nI x32),(7,nB w14),(0,nP b0 0),(1,nI i1),(2,.slice p1 L2.length c2)]) (w':=w43) (by kernel_rfl) ?_
   intro a77 hF76; clear hF44
   refine wpList_nil (thenN ?_)
   cases hc78:(x32 != 0)
   case true =>
    rw [hc78] at hF76
    have hm79:=ifYes hc78 hm75; clear hm75
    refine ev_condT hF76 rfl rfl ?_
    refine wp_seq (wp_region_lit ?_)
    refine ev_runK 2 hF76 [6] (l':=[(6,nI x32)]) (w':=w43) (by kernel_rfl) ?_
    intro a81 hF80; clear hF76
    refine wpList_nil ?_
    have hS82:=hS45.drop
    clear hS45
    refine thenN ?_
    refine wp_ret ?_
    refine thenR ?_
    simp only [Option.some.injEq,Prod.mk.injEq] at hm79
    obtain ⟨rfl,rfl⟩:=hm79
    refine ev_ret hF80 [6] (nI x32) rfl rfl rfl ?_
    exact ⟨rfl,hS82⟩
   rw [hc78] at hF76
   have hm85:=ifNot hc78 hm75; clear hm75
   refine ev_condF hF76 rfl rfl ?_
   refine wp_skip ?_
   have hF86:=hF76.keep [0,1,2,7]
   clear hF76
   refine thenN (wp_seq (wp_region_lit ?_))
   refine ev_runs 1 hF86 (l':=[(41,nP (w14.heap.size) 1),(7,nB w14),(0,nP b0 0),(1,nI i1),(2,.slice p1 L2.length c2)]) (w':=w43) (by kernel_rfl) ?_
   intro a88 hF87; clear hF86
   refine ev_store (nI 1) #[nI (q9.id),nI 1,nI (q9.pc),nI (q9.a),nI (q9.b),nI (q9.c),nI (q9.d),nI (q9.e),nI (q9.f),nI (q9.sudogs)] hF87 (by kernel_rfl) rfl rfl rfl rfl (by kernel_rfl) hS45 (by kernel_rfl) (by kernel_rfl) (by kernel_rfl) (l':=[(41,nP (w14.heap.size) 1),(7,nB w14),(0,nP b0 0),(1,nI i1),(2,.slice p1 L2.length c2)]) (by kernel_rfl) ?_
   intro w89 a90 hS91 hF92; clear hF87 hS45
   refine ev_runs 1 hF92 (l':=[(42,nP (w14.heap.size) 9),(41,nP (w14.heap.size) 1),(7,nB w14),(0,nP b0 0),(1,nI i1),(2,.slice p1 L2.length c2)]) (w':=w89) (by kernel_rfl) ?_
   intro a94 hF93; clear hF92
   refine ev_store (nI (-1)) #[nI (q9.id),nI 1,nI (q9.pc),nI (q9.a),nI (q9.b),nI (q9.c),nI (q9.d),nI (q9.e),nI (q9.f),nI (-1)] hF93 (by kernel_rfl) rfl rfl rfl rfl (by kernel_rfl) hS91 (by kernel_rfl) (by kernel_rfl) (by kernel_rfl) (l':=[(42,nP (w14.heap.size) 9),(41,nP (w14.heap.size) 1),(7,nB w14),(0,nP b0 0),(1,nI i1),(2,.slice p1 L2.length c2)]) (by kernel_rfl) ?_
   intro w95 a96 hS97 hF98; clear hF93 hS91
   refine wpList_nil ?_
   have hF99:=hF98.keep [0,1,2,7]
   clear hF98
   refine thenN (wp_seq (wp_seq (wp_region_lit ?_)))
   refine ev_runs 1 hF99 (l':=[(10,nI 0),(7,nB w14),(0,nP b0 0),(1,nI i1),(2,.slice p1 L2.length c2)]) (w':=w95) (by kernel_rfl) ?_
   intro a101 hF100; clear hF99
   refine wpList_nil (thenN ?_)
   refine wp_block ?_
   refine wp_loop_ghost (fun kI aI wI=>∃ (s102:HSt) (x103:Int),Fr 88 aI [(10,nI x103),(7,nB w14),(0,nP b0 0),(1,nI i1),(2,.slice p1 L2.length c2)]∧St w0 F0 (BlkP (w14.heap.size) 70 #[nI (q9.id),nI 1,nI (q9.pc),nI (q9.a),nI (q9.b),nI (q9.c),nI (q9.d),nI (q9.e),nI (q9.f),nI (-1)]::RHeapP b0 ab0 sb0 g0 cb0 s102::RowP (.slice p1 L2.length c2) L2::ps) wI∧ref11_Park.l7 i1 L2 k q9 kI s102 x103=some (r0,t0)) k ⟨s30,0,hF100,hS97,hm85⟩ ?_
   rintro k104 a105 w106 ⟨s102,x103,hF107,hS108,hm109⟩
   clear hF100 hS97 hm85
   rcases k104 with _ | k104
   · cases hm109
   have hm110:ref11_Park.l7b i1 L2 k q9 (ref11_Park.l7 i1 L2 k q9 k104) s102 x103=some (r0,t0):=hm109
   clear hm109
   unfold ref11_Park.l7b at hm110
   refine wp_seq (wp_seq (wp_region_lit ?_))
   refine ev_runK 4 hF107 [0,1,2,7,10,46] (l':=[(46,.bool (decide (x103<(L2.length:Int)))),(10,nI x103),(7,nB w14),(0,nP b0 0),(1,nI i1),(2,.slice p1 L2.length c2)]) (w':=w106) (by kernel_rfl) ?_
   intro a112 hF111; clear hF107
   refine wpList_nil (thenN ?_)
   cases hc113:(decide (x103<(L2.length:Int)))
   case true =>
    rw [hc113] at hF111
    have hm114:=ifYes hc113 hm110; clear hm110
    refine ev_condT hF111 rfl rfl ?_
    refine wp_skip ?_
    have hF115:=hF111.keep [0,1,2,7,10]
    clear hF111
    refine thenN (wp_seq ?_)
    refine wp_block ?_
    refine wp_seq (wp_region_lit ?_)
    refine ev_runs 3 hF115 (l':=[(52,nI x103),(51,.slice p1 L2.length c2),(50,nP b0 0),(10,nI x103),(7,nB w14),(0,nP b0 0),(1,nI i1),(2,.slice p1 L2.length c2)]) (w':=w106) (by kernel_rfl) ?_
    intro a117 hF116; clear hF115
    obtain ⟨hc118,hm119⟩:=ifTE hm114; clear hm114
    obtain ⟨g120,rfl⟩:=hp3.resolve_left (by have:=inR_spec hc118; omega)
    refine ev_one (nP g120 (x103.toNat)) w106 hF116 (by kernel_rfl) rfl (by kernel_rfl) (run_idx rfl rfl rfl rfl rfl (inR_spec hc118).1 (inR_spec hc118).2 _) (l':=[(53,nP g120 (x103.toNat)),(52,nI x103),(51,nS g120 L2 c2),(50,nP b0 0),(10,nI x103),(7,nB w14),(0,nP b0 0),(1,nI i1),(2,nS g120 L2 c2)]) (by kernel_rfl) ?_
    intro a122 hF121; clear hF116
    refine ev_one (nI (atI L2 x103)) w106 hF121 (by kernel_rfl) rfl (by kernel_rfl) (run_load1 rfl rfl rfl (hS108.atI 2 rfl hc118)) (l':=[(54,nI (atI L2 x103)),(53,nP g120 (x103.toNat)),(52,nI x103),(51,nS g120 L2 c2),(50,nP b0 0),(10,nI x103),(7,nB w14),(0,nP b0 0),(1,nI i1),(2,nS g120 L2 c2)]) (by kernel_rfl) ?_
    intro a124 hF123; clear hF121
    have hS125:=hS108.pick1
    clear hS108
    refine ev_call 124 #[nP b0 0,nI (atI L2 x103)] hF123 rfl rfl (by kernel_rfl) rfl (by kernel_rfl) (fun w=>by kernel_rfl) ?_
    obtain ⟨q126,x127,s128,hx129,hm130⟩:=bind3E hm119; clear hm119
    refine (ref11_Sudog.ok hS125 hx129).mono ?_
    rintro _ w131 ⟨rfl,hS133⟩ a132 hF134; clear hF123 hS125
    refine ev_runs 4 hF134 (l':=[(11,nB w131),(57,nI x127),(56,.agg #[nI (q126.gor),nI (q126.chan),nI (q126.value),nI (q126.next),nI (q126.to),nI (q126.reg),nI (q126.more)]),(49,.tuple #[.agg #[nI (q126.gor),nI (q126.chan),nI (q126.value),nI (q126.next),nI (q126.to),nI (q126.reg),nI (q126.more)],nI x127]),(55,.tuple #[.agg #[nI (q126.gor),nI (q126.chan),nI (q126.value),nI (q126.next),nI (q126.to),nI (q126.reg),nI (q126.more)],nI x127]),(54,nI (atI L2 x103)),(53,nP g120 (x103.toNat)),(52,nI x103),(51,nS g120 L2 c2),(50,nP b0 0),(10,nI x103),(7,nB w14),(0,nP b0 0),(1,nI i1),(2,nS g120 L2 c2)]) (w':=w131.alloc (.cells #[nI 0,nI 0,nI 0,nI 0,nI 0,nI 0,nI 0] 54)) (by kernel_rfl) ?_
    intro a136 hF135; clear hF134
    have hS138:St w0 F0 (BlkP (w131.heap.size) 54 #[nI 0,nI 0,nI 0,nI 0,nI 0,nI 0,nI 0]::RHeapP b0 ab0 sb0 g0 cb0 s128::BlkP (w14.heap.size) 70 #[nI (q9.id),nI 1,nI (q9.pc),nI (q9.a),nI (q9.b),nI (q9.c),nI (q9.d),nI (q9.e),nI (q9.f),nI (-1)]::RowP (nS g120 L2 c2) L2::ps) (w131.alloc (.cells #[nI 0,nI 0,nI 0,nI 0,nI 0,nI 0,nI 0] 54)):=St.new hS133 #[nI 0,nI 0,nI 0,nI 0,nI 0,nI 0,nI 0] 54
    clear hS133
    refine ev_store (.agg #[nI (q126.gor),nI (q126.chan),nI (q126.value),nI (q126.next),nI (q126.to),nI (q126.reg),nI (q126.more)]) #[nI (q126.gor),nI (q126.chan),nI (q126.value),nI (q126.next),nI (q126.to),nI (q126.reg),nI (q126.more)] hF135 (by kernel_rfl) rfl rfl rfl rfl (by kernel_rfl) hS138 (by kernel_rfl) (by kernel_rfl) (by kernel_rfl) (l':=[(11,nB w131),(57,nI x127),(56,.agg #[nI (q126.gor),nI (q126.chan),nI (q126.value),nI (q126.next),nI (q126.to),nI (q126.reg),nI (q126.more)]),(49,.tuple #[.agg #[nI (q126.gor),nI (q126.chan),nI (q126.value),nI (q126.next),nI (q126.to),nI (q126.reg),nI (q126.more)],nI x127]),(55,.tuple #[.agg #[nI (q126.gor),nI (q126.chan),nI (q126.value),nI (q126.next),nI (q126.to),nI (q126.reg),nI (q126.more)],nI x127]),(54,nI (atI L2 x103)),(53,nP g120 (x103.toNat)),(52,nI x103),(51,nS g120 L2 c2),(50,nP b0 0),(10,nI x103),(7,nB w14),(0,nP b0 0),(1,nI i1),(2,nS g120 L2 c2)]) (by kernel_rfl) ?_
    intro w139 a140 hS141 hF142; clear hF135 hS138
    refine ev_runK 1 hF142 [0,1,2,7,10,11] (l':=[(11,nB w131),(10,nI x103),(7,nB w14),(0,nP b0 0),(1,nI i1),(2,nS g120 L2 c2)]) (w':=w139) (by kernel_rfl) ?_
    intro a144 hF143; clear hF142
    refine wpList_nil (thenN (wp_seq (wp_region_lit ?_)))
    refine ev_runs 1 hF143 (l':=[(58,nP (w131.heap.size) 6),(11,nB w131),(10,nI x103),(7,nB w14),(0,nP b0 0),(1,nI i1),(2,nS g120 L2 c2)]) (w':=w139) (by kernel_rfl) ?_
    intro a146 hF145; clear hF143
    refine ev_store (nI (-1)) #[nI (q126.gor),nI (q126.chan),nI (q126.value),nI (q126.next),nI (q126.to),nI (q126.reg),nI (-1)] hF145 (by kernel_rfl) rfl rfl rfl rfl (by kernel_rfl) hS141 (by kernel_rfl) (by kernel_rfl) (by kernel_rfl) (l':=[(58,nP (w131.heap.size) 6),(11,nB w131),(10,nI x103),(7,nB w14),(0,nP b0 0),(1,nI i1),(2,nS g120 L2 c2)]) (by kernel_rfl) ?_
    intro w147 a148 hS149 hF150; clear hF145 hS141
    refine wpList_nil ?_
    have hF151:=hF150.keep [0,1,2,7,10,11]
    clear hF150
    refine thenN (wp_seq (wp_seq (wp_region_lit ?_)))
    refine ev_runK 5 hF151 [0,1,2,7,10,11,63] (l':=[(63,.bool (decide ((IntKind.i64.wrap (x103+1))<(L2.length:Int)))),(11,nB w131),(10,nI x103),(7,nB w14),(0,nP b0 0),(1,nI i1),(2,nS g120 L2 c2)]) (w':=w147) (by kernel_rfl) ?_
    intro a153 hF152; clear hF151
    refine wpList_nil (thenN ?_)
    refine joinQ (fun aI wI=>∃ (x154:Int),Fr 88 aI [(11,nB w131),(10,nI x103),(7,nB w14),(0,nP b0 0),(1,nI i1),(2,nS g120 L2 c2)]∧St w0 F0 (BlkP (w131.heap.size) 54 #[nI (q126.gor),nI (q126.chan),nI (q126.value),nI (q126.next),nI (q126.to),nI (q126.reg),nI x154]::RHeapP b0 ab0 sb0 g0 cb0 s128::BlkP (w14.heap.size) 70 #[nI (q9.id),nI 1,nI (q9.pc),nI (q9.a),nI (q9.b),nI (q9.c),nI (q9.d),nI (q9.e),nI (q9.f),nI (-1)]::RowP (nS g120 L2 c2) L2::ps) wI∧ref11_Park.j8 L2 k x103 (ref11_Park.l7 i1 L2 k q9 k104) q126 s128 x154=some (r0,t0)) ?_ ?_
    rotate_left
    · rintro a156 w157 ⟨x154,hF158,hS159,hm160⟩
      clear hF152 hS149 hm130
      unfold ref11_Park.j8 at hm160
      refine thenN ?_
      have hS162:=hS159.pick3
      clear hS159
      have hS163:=hS162.drew; clear hS162
      refine any_start (fun wS=>∃ qs,St w0 F0 (RowP (nS g120 L2 c2) L2::BlkP (w131.heap.size) 54 #[nI (q126.gor),nI (q126.chan),nI (q126.value),nI (q126.next),nI (q126.to),nI (q126.reg),nI x154]::qs) wS) 7 #[false,false,false,false,false,false,false] (by kernel_rfl) (by kernel_rfl) (by kernel_rfl) ?_
      refine any_many 6 [(0,some (nP b0 0)),(1,some (nS g120 L2 c2)),(2,some (nI x103)),(3,some (nP g120 (x103.toNat))),(4,some (nI (atI L2 x103))),(5,some (.agg #[nI (q126.gor),nI (q126.chan),nI (q126.value),nI (q126.next),nI (q126.to),nI (q126.reg),nI x154]))] [0,1,2,7,10,70,74,75] #[true,true,true,true,true,true,false] (by rfl) hF158 (by kernel_rfl) (by kernel_rfl) (by exact ⟨fun wS hw=>by kernel_rfl,fun wS hw=>by kernel_rfl,fun wS hw=>by kernel_rfl,fun wS hw=>run_idx rfl rfl rfl rfl rfl (inR_spec hc118).1 (inR_spec hc118).2 _,fun wS hw=>run_load1 rfl rfl rfl (hw.elim fun qs hw=>hw.atI 0 rfl hc118),fun wS hw=>hw.elim fun qs hw=>run_loadV rfl rfl (run_loadA (cs:=[nI (q126.gor),nI (q126.chan),nI (q126.value),nI (q126.next),nI (q126.to),nI (q126.reg),nI x154]) rfl rfl (by kernel_rfl) (blk_cells hw 1 rfl rfl)),trivial⟩) (fun _ _ _ _ _ h=>h) ⟨_,hS163⟩ (l':=[(75,.agg #[nI (q126.gor),nI (q126.chan),nI (q126.value),nI (q126.next),nI (q126.to),nI (q126.reg),nI x154]),(74,nI (atI L2 x103)),(70,nP b0 0),(10,nI x103),(7,nB w14),(0,nP b0 0),(1,nI i1),(2,nS g120 L2 c2)]) (by kernel_rfl) ?_
      intro a165 hF164; clear hF158
      have hS166:=hS163.pick2
      clear hS163
      refine any_call 6 #[true,true,true,true,true,true,true] 77 #[nP b0 0,nI (atI L2 x103),.agg #[nI (q126.gor),nI (q126.chan),nI (q126.value),nI (q126.next),nI (q126.to),nI (q126.reg),nI x154]] hF164 rfl (by kernel_rfl) rfl rfl (by kernel_rfl) rfl (by kernel_rfl) (fun w=>by kernel_rfl) (by kernel_rfl) ?_
      obtain ⟨x167,s168,hx169,hm170⟩:=bind2E hm160; clear hm160
      refine (ref11_PutSudog.ok hS166 hx169).mono ?_
      rintro _ w171 ⟨rfl,hS173⟩; clear hS166
      refine ⟨⟨_,hS173.pick2.pick2⟩,?_⟩
      intro a172 hF174; clear hF164
      refine any_done (by kernel_rfl) ?_
      have hF175:=hF174.keep [0,1,2,7,10]
      clear hF174
      have hS176:=hS173.pick2.drop
      clear hS173
      refine blockN ?_
      refine thenN (wp_region_lit ?_)
      refine ev_runK 3 hF175 [0,1,2,7,10] (l':=[(10,nI (IntKind.i64.wrap (x103+1))),(7,nB w14),(0,nP b0 0),(1,nI i1),(2,nS g120 L2 c2)]) (w':=w171) (by kernel_rfl) ?_
      intro a178 hF177; clear hF175
      refine wpList_nil ?_
      have hS179:=hS176.pick1.pick1.pick2
      clear hS176
      exact thenN ⟨k104,Nat.lt_succ_self _,s168,IntKind.i64.wrap (x103+1),hF177,hS179,hm170⟩
    · skip
      cases hc180:(decide ((IntKind.i64.wrap (x103+1))<(L2.length:Int)))
      case true =>
       rw [hc180] at hF152
       have hm181:=ifYes hc180 hm130; clear hm130
       refine ev_condT hF152 rfl rfl ?_
       refine wp_region_lit ?_
       refine ev_runs 3 hF152 (l':=[(66,nI (IntKind.i64.wrap (x103+1))),(65,nI x103),(64,nS g120 L2 c2),(63,.bool true),(11,nB w131),(10,nI x103),(7,nB w14),(0,nP b0 0),(1,nI i1),(2,nS g120 L2 c2)]) (w':=w147) (by kernel_rfl) ?_
       intro a183 hF182; clear hF152
       obtain ⟨hc184,hm185⟩:=ifTE hm181; clear hm181
       refine ev_one (nP g120 ((IntKind.i64.wrap (x103+1)).toNat)) w147 hF182 (by kernel_rfl) rfl (by kernel_rfl) (run_idx rfl rfl rfl rfl rfl (inR_spec hc184).1 (inR_spec hc184).2 _) (l':=[(67,nP g120 ((IntKind.i64.wrap (x103+1)).toNat)),(66,nI (IntKind.i64.wrap (x103+1))),(65,nI x103),(64,nS g120 L2 c2),(63,.bool true),(11,nB w131),(10,nI x103),(7,nB w14),(0,nP b0 0),(1,nI i1),(2,nS g120 L2 c2)]) (by kernel_rfl) ?_
       intro a187 hF186; clear hF182
       refine ev_one (nI (atI L2 (IntKind.i64.wrap (x103+1)))) w147 hF186 (by kernel_rfl) rfl (by kernel_rfl) (run_load1 rfl rfl rfl (hS149.atI 3 rfl hc184)) (l':=[(68,nI (atI L2 (IntKind.i64.wrap (x103+1)))),(67,nP g120 ((IntKind.i64.wrap (x103+1)).toNat)),(66,nI (IntKind.i64.wrap (x103+1))),(65,nI x103),(64,nS g120 L2 c2),(63,.bool true),(11,nB w131),(10,nI x103),(7,nB w14),(0,nP b0 0),(1,nI i1),(2,nS g120 L2 c2)]) (by kernel_rfl) ?_
       intro a189 hF188; clear hF186
       refine ev_runs 1 hF188 (l':=[(69,nP (w131.heap.size) 6),(68,nI (atI L2 (IntKind.i64.wrap (x103+1)))),(67,nP g120 ((IntKind.i64.wrap (x103+1)).toNat)),(66,nI (IntKind.i64.wrap (x103+1))),(65,nI x103),(64,nS g120 L2 c2),(63,.bool true),(11,nB w131),(10,nI x103),(7,nB w14),(0,nP b0 0),(1,nI i1),(2,nS g120 L2 c2)]) (w':=w147) (by kernel_rfl) ?_
       intro a191 hF190; clear hF188
       refine ev_store (nI (atI L2 (IntKind.i64.wrap (x103+1)))) #[nI (q126.gor),nI (q126.chan),nI (q126.value),nI (q126.next),nI (q126.to),nI (q126.reg),nI (atI L2 (IntKind.i64.wrap (x103+1)))] hF190 (by kernel_rfl) rfl rfl rfl rfl (by kernel_rfl) hS149 (by kernel_rfl) (by kernel_rfl) (by kernel_rfl) (l':=[(69,nP (w131.heap.size) 6),(68,nI (atI L2 (IntKind.i64.wrap (x103+1)))),(67,nP g120 ((IntKind.i64.wrap (x103+1)).toNat)),(66,nI (IntKind.i64.wrap (x103+1))),(65,nI x103),(64,nS g120 L2 c2),(63,.bool true),(11,nB w131),(10,nI x103),(7,nB w14),(0,nP b0 0),(1,nI i1),(2,nS g120 L2 c2)]) (by kernel_rfl) ?_
       intro w192 a193 hS194 hF195; clear hF190 hS149
       refine wpList_nil ?_
       have hF196:=hF195.keep [0,1,2,7,10,11]
       clear hF195
       exact thenN ⟨atI L2 (IntKind.i64.wrap (x103+1)),hF196,hS194,hm185⟩
      rw [hc180] at hF152
      have hm197:=ifNot hc180 hm130; clear hm130
      refine ev_condF hF152 rfl rfl ?_
      refine wp_skip ?_
      have hF198:=hF152.keep [0,1,2,7,10,11]
      clear hF152
      exact thenN ⟨-1,hF198,hS149,hm197⟩
   rw [hc113] at hF111
   have hm199:=ifNot hc113 hm110; clear hm110
   refine ev_condF hF111 rfl rfl ?_
   refine wp_exit ?_
   refine thenE ?_
   refine thenE ?_
   refine blockE ?_
   refine thenN (wp_seq (wp_seq (wp_region_lit ?_)))
   refine ev_runK 3 hF111 [0,1,2,7,79] (l':=[(79,.bool (decide ((L2.length:Int) > 0))),(7,nB w14),(0,nP b0 0),(1,nI i1),(2,.slice p1 L2.length c2)]) (w':=w106) (by kernel_rfl) ?_
   intro a201 hF200; clear hF111
   refine wpList_nil (thenN ?_)
   refine joinQ (fun aI wI=>∃ (x202:Int),Fr 88 aI [(7,nB w14),(0,nP b0 0),(1,nI i1)]∧St w0 F0 (BlkP (w14.heap.size) 70 #[nI (q9.id),nI 1,nI (q9.pc),nI (q9.a),nI (q9.b),nI (q9.c),nI (q9.d),nI (q9.e),nI (q9.f),nI x202]::RHeapP b0 ab0 sb0 g0 cb0 s102::RowP (.slice p1 L2.length c2) L2::ps) wI∧ref11_Park.j9 i1 k q9 s102 x202=some (r0,t0)) ?_ ?_
   rotate_left
   · rintro a204 w205 ⟨x202,hF206,hS207,hm208⟩
     clear hF200 hS108 hm199
     unfold ref11_Park.j9 at hm208
     refine thenN (wp_seq (wp_region_lit ?_))
     refine ev_runs 2 hF206 (l':=[(85,nI i1),(84,nP b0 0),(7,nB w14),(0,nP b0 0),(1,nI i1)]) (w':=w205) (by kernel_rfl) ?_
     intro a211 hF210; clear hF206
     refine ev_one (.agg #[nI (q9.id),nI 1,nI (q9.pc),nI (q9.a),nI (q9.b),nI (q9.c),nI (q9.d),nI (q9.e),nI (q9.f),nI x202]) w205 hF210 (by kernel_rfl) rfl (by kernel_rfl) (run_loadV rfl rfl (run_loadA (cs:=[nI (q9.id),nI 1,nI (q9.pc),nI (q9.a),nI (q9.b),nI (q9.c),nI (q9.d),nI (q9.e),nI (q9.f),nI x202]) rfl rfl (by kernel_rfl) (blk_cells hS207 0 rfl rfl))) (l':=[(86,.agg #[nI (q9.id),nI 1,nI (q9.pc),nI (q9.a),nI (q9.b),nI (q9.c),nI (q9.d),nI (q9.e),nI (q9.f),nI x202]),(85,nI i1),(84,nP b0 0),(7,nB w14),(0,nP b0 0),(1,nI i1)]) (by kernel_rfl) ?_
     intro a213 hF212; clear hF210
     have hS214:=hS207.pick1
     clear hS207
     refine ev_call 64 #[nP b0 0,nI i1,.agg #[nI (q9.id),nI 1,nI (q9.pc),nI (q9.a),nI (q9.b),nI (q9.c),nI (q9.d),nI (q9.e),nI (q9.f),nI x202]] hF212 rfl rfl (by kernel_rfl) rfl (by kernel_rfl) (fun w=>by kernel_rfl) ?_
     obtain ⟨x215,s216,hx217,hm218⟩:=bind2E hm208; clear hm208
     refine (ref11_PutGor.ok hS214 hx217).mono ?_
     rintro _ w219 ⟨rfl,hS221⟩ a220 hF222; clear hF212 hS214
     refine ev_runK 1 hF222 [6] (l':=[(6,nI x215)]) (w':=w219) (by kernel_rfl) ?_
     intro a224 hF223; clear hF222
     refine wpList_nil ?_
     have hS225:=hS221.pick1.drop
     clear hS221
     refine thenN ?_
     refine wp_ret ?_
     simp only [Option.some.injEq,Prod.mk.injEq] at hm218
     obtain ⟨rfl,rfl⟩:=hm218
     refine ev_ret hF223 [6] (nI x215) rfl rfl rfl ?_
     exact ⟨rfl,hS225⟩
   · skip
     cases hc228:(decide ((L2.length:Int) > 0))
     case true =>
      rw [hc228] at hF200
      have hm229:=ifYes hc228 hm199; clear hm199
      refine ev_condT hF200 rfl rfl ?_
      refine wp_region_lit ?_
      refine ev_runs 1 hF200 (l':=[(80,.slice p1 L2.length c2),(79,.bool true),(7,nB w14),(0,nP b0 0),(1,nI i1),(2,.slice p1 L2.length c2)]) (w':=w106) (by kernel_rfl) ?_
      intro a231 hF230; clear hF200
      obtain ⟨hc232,hm233⟩:=ifTE hm229; clear hm229
      obtain ⟨g234,rfl⟩:=hp3.resolve_left (by have:=inR_spec hc232; omega)
      refine ev_one (nP g234 ((0:Int).toNat)) w106 hF230 (by kernel_rfl) rfl (by kernel_rfl) (run_idx rfl rfl rfl rfl rfl (inR_spec hc232).1 (inR_spec hc232).2 _) (l':=[(81,nP g234 ((0:Int).toNat)),(80,nS g234 L2 c2),(79,.bool true),(7,nB w14),(0,nP b0 0),(1,nI i1),(2,nS g234 L2 c2)]) (by kernel_rfl) ?_
      intro a236 hF235; clear hF230
      refine ev_one (nI (atI L2 (0:Int))) w106 hF235 (by kernel_rfl) rfl (by kernel_rfl) (run_load1 rfl rfl rfl (hS108.atI 2 rfl hc232)) (l':=[(82,nI (atI L2 (0:Int))),(81,nP g234 ((0:Int).toNat)),(80,nS g234 L2 c2),(79,.bool true),(7,nB w14),(0,nP b0 0),(1,nI i1),(2,nS g234 L2 c2)]) (by kernel_rfl) ?_
      intro a238 hF237; clear hF235
      refine ev_runs 1 hF237 (l':=[(83,nP (w14.heap.size) 9),(82,nI (atI L2 (0:Int))),(81,nP g234 ((0:Int).toNat)),(80,nS g234 L2 c2),(79,.bool true),(7,nB w14),(0,nP b0 0),(1,nI i1),(2,nS g234 L2 c2)]) (w':=w106) (by kernel_rfl) ?_
      intro a240 hF239; clear hF237
      refine ev_store (nI (atI L2 (0:Int))) #[nI (q9.id),nI 1,nI (q9.pc),nI (q9.a),nI (q9.b),nI (q9.c),nI (q9.d),nI (q9.e),nI (q9.f),nI (atI L2 (0:Int))] hF239 (by kernel_rfl) rfl rfl rfl rfl (by kernel_rfl) hS108 (by kernel_rfl) (by kernel_rfl) (by kernel_rfl) (l':=[(83,nP (w14.heap.size) 9),(82,nI (atI L2 (0:Int))),(81,nP g234 ((0:Int).toNat)),(80,nS g234 L2 c2),(79,.bool true),(7,nB w14),(0,nP b0 0),(1,nI i1),(2,nS g234 L2 c2)]) (by kernel_rfl) ?_
      intro w241 a242 hS243 hF244; clear hF239 hS108
      refine wpList_nil ?_
      have hF245:=hF244.keep [0,1,7]
      clear hF244
      exact thenN ⟨atI L2 (0:Int),hF245,hS243,hm233⟩
     rw [hc228] at hF200
     have hm246:=ifNot hc228 hm199; clear hm199
     refine ev_condF hF200 rfl rfl ?_
     refine wp_skip ?_
     have hF247:=hF200.keep [0,1,7]
     clear hF200
     exact thenN ⟨-1,hF247,hS108,hm246⟩
 · skip
   refine wp_region_lit ?_
   refine ev_runs 5 hF36 (l':=[(23,.bool (decide (x31<(L2.length:Int)))),(22,.bool (decide (x31<(L2.length:Int)))),(21,nI ((L2.length:Int))),(20,.slice p1 L2.length c2),(19,nI x31),(9,nI x31),(8,nI x32),(7,nB w14),(0,nP b0 0),(1,nI i1),(2,.slice p1 L2.length c2)]) (w':=w35) (by kernel_rfl) ?_
   intro a249 hF248; clear hF36
   cases hc250:(decide (x31<(L2.length:Int)))
   case true =>
    rw [hc250] at hF248
    have hm251:=ifYes hc250 hm39; clear hm39
    refine ev_runK 3 hF248 [0,1,2,7,8,9,26] (l':=[(26,.bool (x32 == 0)),(9,nI x31),(8,nI x32),(7,nB w14),(0,nP b0 0),(1,nI i1),(2,.slice p1 L2.length c2)]) (w':=w35) (by kernel_rfl) ?_
    intro a253 hF252; clear hF248
    refine wpList_nil ?_
    exact thenN ⟨x32 == 0,hF252,hS37,hm251⟩
   rw [hc250] at hF248
   have hm254:=ifNot hc250 hm39; clear hm39
   refine ev_runK 3 hF248 [0,1,2,7,8,9,26] (l':=[(26,.bool false),(9,nI x31),(8,nI x32),(7,nB w14),(0,nP b0 0),(1,nI i1),(2,.slice p1 L2.length c2)]) (w':=w35) (by kernel_rfl) ?_
   intro a256 hF255; clear hF248
   refine wpList_nil ?_
   exact thenN ⟨false,hF255,hS37,hm254⟩
end Go.Proofs.YtaojmbkmicjecaaGreat
