/- GRef11 GRef11b -/
import Derived.Test.YtffnjpapggidlaaGreatKPrimV
import Derived.Test.YtffnjpapggidlaaGreatKGHelp
import Derived.Deep.LoopGhost
import Derived.KernelRfl
namespace Go.Proofs.YtffnjpapggidlaaGreat
open Go.RowKit
set_option maxRecDepth 100000
set_option maxHeartbeats 40000000
set_option linter.unusedVariables false
def ref11_ptr.m (k:Nat) (i0:Int):Option (Int):=(if (decide (i0<0)) then some (wrap64 (0 * 2)) else some (wrap64 (wrap64 (i0 * 2)+1)))
theorem ref11_ptr.ok {w0 w:World} {F0:List Nat} {ps:List Piece} {k:Nat} {i0:Int} {r0:Int} (hS:St w0 F0 (ps) w) (hm:ref11_ptr.m k i0=some r0) :
    Calls Tryz.prog 110 #[nI i0] w fun e w'=>e=.returned (.int .i64 r0)∧St w0 F0 (ps) w':=by
 refine ev_enterL 8 [nI i0] Tryz.func110 rfl rfl (by simp) ?_
 intro a hF
 have hF0:Fr 8 a [(0,nI i0)]:=hF; clear hF
 unfold ref11_ptr.m at hm
 refine wp_seq (wp_region_lit ?_)
 refine ev_runK 1 hF0 [0] (l':=[(0,nI i0)]) (w':=w) (by kernel_rfl) ?_
 intro a2 hF1; clear hF0
 refine wpList_nil (thenN (wp_seq (wp_seq (wp_region_lit ?_))))
 refine ev_runK 2 hF1 [0,4] (l':=[(4,.bool (decide (i0<0))),(0,nI i0)]) (w':=w) (by kernel_rfl) ?_
 intro a4 hF3; clear hF1
 refine wpList_nil (thenN ?_)
 cases hc5:(decide (i0<0))
 case true =>
  rw [hc5] at hF3
  have hm6:=ifYes hc5 hm; clear hm
  refine ev_condT hF3 rfl rfl ?_
  refine wp_seq (wp_region_lit ?_)
  refine ev_call 109 #[nI 0] hF3 rfl rfl (by kernel_rfl) rfl (by kernel_rfl) (fun w=>by kernel_rfl) ?_
  refine (p_rInt hS).mono ?_
  rintro _ w7 ⟨rfl,hS9⟩ a8 hF10; clear hF3 hS
  refine ev_runK 1 hF10 [2] (l':=[(2,nI (wrap64 (0 * 2)))]) (w':=w7) (by kernel_rfl) ?_
  intro a12 hF11; clear hF10
  refine wpList_nil (thenN ?_)
  refine wp_ret ?_
  refine thenR ?_
  obtain rfl:=Option.some.inj hm6
  refine ev_ret hF11 [2] (nI (wrap64 (0 * 2))) rfl rfl rfl ?_
  exact ⟨rfl,hS9⟩
 rw [hc5] at hF3
 have hm14:=ifNot hc5 hm; clear hm
 refine ev_condF hF3 rfl rfl ?_
 refine wp_skip ?_
 have hF15:=hF3.keep [0]
 clear hF3
 refine thenN (wp_seq (wp_region_lit ?_))
 refine ev_runs 1 hF15 (l':=[(6,nI i0),(0,nI i0)]) (w':=w) (by kernel_rfl) ?_
 intro a17 hF16; clear hF15
 refine ev_call 75 #[nI i0] hF16 rfl rfl (by kernel_rfl) rfl (by kernel_rfl) (fun w=>by kernel_rfl) ?_
 refine (p_rPtr hS).mono ?_
 rintro _ w18 ⟨rfl,hS20⟩ a19 hF21; clear hF16 hS
 refine ev_runK 1 hF21 [2] (l':=[(2,nI (wrap64 (wrap64 (i0 * 2)+1)))]) (w':=w18) (by kernel_rfl) ?_
 intro a23 hF22; clear hF21
 refine wpList_nil (thenN ?_)
 refine wp_ret ?_
 obtain rfl:=Option.some.inj hm14
 refine ev_ret hF22 [2] (nI (wrap64 (wrap64 (i0 * 2)+1))) rfl rfl rfl ?_
 exact ⟨rfl,hS20⟩
def ref11_number.m (k:Nat) (i0:Int):Option (Int):=bind1 (pNum i0) fun x5=>some (x5)
theorem ref11_number.ok {w0 w:World} {F0:List Nat} {ps:List Piece} {k:Nat} {i0:Int} {r0:Int} (hS:St w0 F0 (ps) w) (hm:ref11_number.m k i0=some r0) :
    Calls Tryz.prog 121 #[nI i0] w fun e w'=>e=.returned (.int .i64 r0)∧St w0 F0 (ps) w':=by
 refine ev_enterL 5 [nI i0] Tryz.func121 rfl rfl (by simp) ?_
 intro a hF
 have hF0:Fr 5 a [(0,nI i0)]:=hF; clear hF
 unfold ref11_number.m at hm
 refine wp_seq (wp_region_lit ?_)
 refine ev_runK 1 hF0 [0] (l':=[(0,nI i0)]) (w':=w) (by kernel_rfl) ?_
 intro a2 hF1; clear hF0
 refine wpList_nil (thenN (wp_seq (wp_region_lit ?_)))
 refine ev_runs 1 hF1 (l':=[(3,nI i0),(0,nI i0)]) (w':=w) (by kernel_rfl) ?_
 intro a4 hF3; clear hF1
 refine ev_call 189 #[nI i0] hF3 rfl rfl (by kernel_rfl) rfl (by kernel_rfl) (fun w=>by kernel_rfl) ?_
 obtain ⟨x5,hx6,hm7⟩:=bind1E hm; clear hm
 refine (p_rNum hS hx6).mono ?_
 rintro _ w8 ⟨rfl,hS10⟩ a9 hF11; clear hF3 hS
 refine ev_runK 1 hF11 [2] (l':=[(2,nI x5)]) (w':=w8) (by kernel_rfl) ?_
 intro a13 hF12; clear hF11
 refine wpList_nil (thenN ?_)
 refine wp_ret ?_
 obtain rfl:=Option.some.inj hm7
 refine ev_ret hF12 [2] (nI x5) rfl rfl rfl ?_
 exact ⟨rfl,hS10⟩
def ref11_place.m (k:Nat) (i0:Int):Option (Int):=bind1 (pAt i0) fun x5=>some (x5)
theorem ref11_place.ok {w0 w:World} {F0:List Nat} {ps:List Piece} {k:Nat} {i0:Int} {r0:Int} (hS:St w0 F0 (ps) w) (hm:ref11_place.m k i0=some r0) :
    Calls Tryz.prog 122 #[nI i0] w fun e w'=>e=.returned (.int .i64 r0)∧St w0 F0 (ps) w':=by
 refine ev_enterL 5 [nI i0] Tryz.func122 rfl rfl (by simp) ?_
 intro a hF
 have hF0:Fr 5 a [(0,nI i0)]:=hF; clear hF
 unfold ref11_place.m at hm
 refine wp_seq (wp_region_lit ?_)
 refine ev_runK 1 hF0 [0] (l':=[(0,nI i0)]) (w':=w) (by kernel_rfl) ?_
 intro a2 hF1; clear hF0
 refine wpList_nil (thenN (wp_seq (wp_region_lit ?_)))
 refine ev_runs 1 hF1 (l':=[(3,nI i0),(0,nI i0)]) (w':=w) (by kernel_rfl) ?_
 intro a4 hF3; clear hF1
 refine ev_call 40 #[nI i0] hF3 rfl rfl (by kernel_rfl) rfl (by kernel_rfl) (fun w=>by kernel_rfl) ?_
 obtain ⟨x5,hx6,hm7⟩:=bind1E hm; clear hm
 refine (p_rAt hS hx6).mono ?_
 rintro _ w8 ⟨rfl,hS10⟩ a9 hF11; clear hF3 hS
 refine ev_runK 1 hF11 [2] (l':=[(2,nI x5)]) (w':=w8) (by kernel_rfl) ?_
 intro a13 hF12; clear hF11
 refine wpList_nil (thenN ?_)
 refine wp_ret ?_
 obtain rfl:=Option.some.inj hm7
 refine ev_ret hF12 [2] (nI x5) rfl rfl rfl ?_
 exact ⟨rfl,hS10⟩
def ref11_words.l2b (s0:HSt) (i1:Int) (i2:Int) (rec45:List Int→Int→Option (List Int×Int×HSt)) (L40:List Int) (x42:Int):Option (List Int×Int×HSt):=(if (decide (x42<(rNeed i2 0))) then bind2 (pLoad i1 x42 s0) fun x66 x67=>bind1 (pushM L40 x66) fun L79=>rec45 L79 (IntKind.i64.wrap (x42+1)) else some (L40,0,s0))
def ref11_words.l2 (s0:HSt) (i1:Int) (i2:Int):Nat→List Int→Int→Option (List Int×Int×HSt)
  | 0=>fun _ _=>none
  | kI+1=>ref11_words.l2b s0 i1 i2 (ref11_words.l2 s0 i1 i2 kI)
def ref11_words.j1 (s0:HSt) (i1:Int) (i2:Int) (k:Nat) (y14:Bool):Option (List Int×Int×HSt):=(if (y14) then some ([],10,s0) else ref11_words.l2 s0 i1 i2 k [] 0)
def ref11_words.m (k:Nat) (s0:HSt) (i1:Int) (i2:Int):Option (List Int×Int×HSt):=(if ((aKind s0.a.c i1) != i2) then ref11_words.j1 s0 i1 i2 k true else ref11_words.j1 s0 i1 i2 k ((aLen s0.a.c i1) != (rNeed i2 0)))
theorem ref11_words.ok {w0 w:World} {F0:List Nat} {ps:List Piece} {k:Nat} {b0 ab0 sb0 g0 cb0:Nat} {s0:HSt} {i1:Int} {i2:Int} {r0:List Int} {r1:Int} {t0:HSt} (hS:St w0 F0 (RHeapP b0 ab0 sb0 g0 cb0 s0::ps) w) (hm:ref11_words.m k s0 i1 i2=some (r0,r1,t0)) :
    Calls Tryz.prog 120 #[nP b0 0,nI i1,nI i2] w fun e w'=>∃ vr0,e=.returned (.tuple #[vr0,.int .i64 r1])∧St w0 F0 (RHeapP b0 ab0 sb0 g0 cb0 t0::RowP vr0 r0::ps) w':=by
 refine ev_enterL 57 [nP b0 0,nI i1,nI i2] Tryz.func120 rfl rfl (by simp) ?_
 intro a hF
 have hF0:Fr 57 a [(0,nP b0 0),(1,nI i1),(2,nI i2)]:=hF; clear hF
 unfold ref11_words.m at hm
 refine wp_seq (wp_region_lit ?_)
 have hS2:St w0 F0 (RowP (.slice none 0 0) []::RHeapP b0 ab0 sb0 g0 cb0 s0::ps) w:=St.nil hS
 refine ev_runK 2 hF0 [0,1,2] (l':=[(0,nP b0 0),(1,nI i1),(2,nI i2)]) (w':=w) (by kernel_rfl) ?_
 intro a4 hF3; clear hF0
 refine wpList_nil ?_
 have hS5:=hS2.drop
 clear hS2
 refine thenN (wp_seq (wp_region_lit ?_))
 refine ev_runs 1 hF3 (l':=[(15,nI i2),(0,nP b0 0),(1,nI i1),(2,nI i2)]) (w':=w) (by kernel_rfl) ?_
 intro a7 hF6; clear hF3
 refine ev_call 148 #[nI i2,nI 0] hF6 rfl rfl (by kernel_rfl) rfl (by kernel_rfl) (fun w=>by kernel_rfl) ?_
 refine (q_Need hS5).mono ?_
 rintro _ w8 ⟨rfl,hS10⟩ a9 hF11; clear hF6 hS5
 refine ev_runK 5 hF11 [0,1,2,8] (l':=[(8,nI (rNeed i2 0)),(0,nP b0 0),(1,nI i1),(2,nI i2)]) (w':=w8) (by kernel_rfl) ?_
 intro a13 hF12; clear hF11
 refine wpList_nil (thenN (wp_seq (wp_seq ?_)))
 refine joinQ (fun aI wI=>∃ (y14:Bool),Fr 57 aI [(36,.bool (y14)),(8,nI (rNeed i2 0)),(0,nP b0 0),(1,nI i1)]∧St w0 F0 (RHeapP b0 ab0 sb0 g0 cb0 s0::ps) wI∧ref11_words.j1 s0 i1 i2 k y14=some (r0,r1,t0)) ?_ ?_
 rotate_left
 · rintro a16 w17 ⟨y14,hF18,hS19,hm20⟩
   clear hF12 hS10 hm
   unfold ref11_words.j1 at hm20
   refine thenN ?_
   cases hc22:(y14)
   case true =>
    rw [hc22] at hF18
    have hm23:=ifYes hc22 hm20; clear hm20
    refine ev_condT hF18 rfl rfl ?_
    refine wp_seq (wp_region_lit ?_)
    have hS25:St w0 F0 (RowP (.slice none 0 0) []::RHeapP b0 ab0 sb0 g0 cb0 s0::ps) w17:=St.nil hS19
    clear hS19
    refine ev_runK 2 hF18 [6,7] (l':=[(7,nI 10),(6,.slice none 0 0)]) (w':=w17) (by kernel_rfl) ?_
    intro a27 hF26; clear hF18
    refine wpList_nil (thenN ?_)
    refine wp_ret ?_
    refine thenR ?_
    have hS28:=hS25.pick1
    clear hS25
    simp only [Option.some.injEq,Prod.mk.injEq] at hm23
    obtain ⟨rfl,rfl,rfl⟩:=hm23
    refine ev_ret hF26 [6,7] (.tuple #[.slice none 0 0,nI 10]) rfl rfl rfl ?_
    exact ⟨_,rfl,hS28⟩
   rw [hc22] at hF18
   have hm32:=ifNot hc22 hm20; clear hm20
   refine ev_condF hF18 rfl rfl ?_
   refine wp_skip ?_
   have hF33:=hF18.keep [0,1,8]
   clear hF18
   refine thenN (wp_seq (wp_region_lit ?_))
   have hS35:St w0 F0 (RowP (.slice none 0 0) []::RHeapP b0 ab0 sb0 g0 cb0 s0::ps) w17:=St.nil hS19
   clear hS19
   refine ev_runs 1 hF33 (l':=[(10,.slice none 0 0),(8,nI (rNeed i2 0)),(0,nP b0 0),(1,nI i1)]) (w':=w17) (by kernel_rfl) ?_
   intro a37 hF36; clear hF33
   refine wpList_nil (thenN (wp_seq (wp_seq (wp_region_lit ?_))))
   refine ev_runs 1 hF36 (l':=[(11,nI 0),(10,.slice none 0 0),(8,nI (rNeed i2 0)),(0,nP b0 0),(1,nI i1)]) (w':=w17) (by kernel_rfl) ?_
   intro a39 hF38; clear hF36
   refine wpList_nil (thenN ?_)
   refine wp_block ?_
   refine wp_loop_ghost (fun kI aI wI=>∃ (v41:Value) (L40:List Int) (x42:Int),Fr 57 aI [(11,nI x42),(10,v41),(8,nI (rNeed i2 0)),(0,nP b0 0),(1,nI i1)]∧St w0 F0 (RowP (v41) L40::RHeapP b0 ab0 sb0 g0 cb0 s0::ps) wI∧ref11_words.l2 s0 i1 i2 kI L40 x42=some (r0,r1,t0)) k ⟨.slice none 0 0,[],0,hF38,hS35,hm32⟩ ?_
   rintro k43 a44 w45 ⟨v41,L40,x42,hF46,hS47,hm48⟩
   clear hF38 hS35 hm32
   rcases k43 with _ | k43
   · cases hm48
   have hm49:ref11_words.l2b s0 i1 i2 (ref11_words.l2 s0 i1 i2 k43) L40 x42=some (r0,r1,t0):=hm48
   clear hm48
   unfold ref11_words.l2b at hm49
   obtain ⟨hl53,p50,c51,rfl,hp52⟩:=St.shape hS47 0 rfl
   refine wp_seq (wp_seq (wp_region_lit ?_))
   refine ev_runK 3 hF46 [0,1,8,10,11,39] (l':=[(39,.bool (decide (x42<(rNeed i2 0)))),(11,nI x42),(10,.slice p50 L40.length c51),(8,nI (rNeed i2 0)),(0,nP b0 0),(1,nI i1)]) (w':=w45) (by kernel_rfl) ?_
   intro a55 hF54; clear hF46
   refine wpList_nil (thenN ?_)
   cases hc56:(decide (x42<(rNeed i2 0)))
   case true =>
    rw [hc56] at hF54
    have hm57:=ifYes hc56 hm49; clear hm49
    refine ev_condT hF54 rfl rfl ?_
    refine wp_skip ?_
    have hF58:=hF54.keep [0,1,8,10,11]
    clear hF54
    refine thenN (wp_seq ?_)
    refine wp_block ?_
    refine wp_seq (wp_region_lit ?_)
    refine ev_runs 3 hF58 (l':=[(45,nP b0 0),(44,nP b0 0),(43,nP b0 0),(11,nI x42),(10,.slice p50 L40.length c51),(8,nI (rNeed i2 0)),(0,nP b0 0),(1,nI i1)]) (w':=w45) (by kernel_rfl) ?_
    intro a60 hF59; clear hF58
    refine ev_one (nP ab0 0) w45 hF59 (by kernel_rfl) rfl (by kernel_rfl) (run_loadV rfl rfl (run_loadS rfl rfl (St.rhsee (k:=1) hS47 rfl).1)) (l':=[(46,nP ab0 0),(45,nP b0 0),(44,nP b0 0),(43,nP b0 0),(11,nI x42),(10,.slice p50 L40.length c51),(8,nI (rNeed i2 0)),(0,nP b0 0),(1,nI i1)]) (by kernel_rfl) ?_
    intro a62 hF61; clear hF59
    refine ev_runs 2 hF61 (l':=[(48,nI x42),(47,nI i1),(46,nP ab0 0),(45,nP b0 0),(44,nP b0 0),(43,nP b0 0),(11,nI x42),(10,.slice p50 L40.length c51),(8,nI (rNeed i2 0)),(0,nP b0 0),(1,nI i1)]) (w':=w45) (by kernel_rfl) ?_
    intro a64 hF63; clear hF61
    have hS65:=hS47.pick1
    clear hS47
    refine ev_call 117 #[nP ab0 0,nI i1,nI x42] hF63 rfl rfl (by kernel_rfl) rfl (by kernel_rfl) (fun w=>by kernel_rfl) ?_
    obtain ⟨x66,x67,hx68,hm69⟩:=bind2E hm57; clear hm57
    refine (q_Load hS65 hx68).mono ?_
    rintro _ w70 ⟨rfl,hS72⟩ a71 hF73; clear hF63 hS65
    refine ev_runK 5 hF73 [0,1,8,10,11,12] (l':=[(12,nI x66),(11,nI x42),(10,.slice p50 L40.length c51),(8,nI (rNeed i2 0)),(0,nP b0 0),(1,nI i1)]) (w':=w70) (by kernel_rfl) ?_
    intro a75 hF74; clear hF73
    refine wpList_nil (thenN (wp_region_lit ?_))
    refine ev_runs 3 hF74 (l':=[(54,.slice (some ⟨w70.heap.size,0,none⟩) 1 1),(53,nI x66),(52,.slice p50 L40.length c51),(12,nI x66),(11,nI x42),(10,.slice p50 L40.length c51),(8,nI (rNeed i2 0)),(0,nP b0 0),(1,nI i1)]) (w':=w70.alloc (.cells #[nI x66] 3)) (by kernel_rfl) ?_
    intro a77 hF76; clear hF74
    have hS78:=hS72.pick1
    clear hS72
    obtain ⟨L79,hx80,hm81⟩:=bind1E hm69; clear hm69
    refine ev_push 55 (.tmp 52) (.tmp 54) hF76 rfl rfl rfl rfl rfl rfl rfl rfl hS78 hx80 ?_
    intro g82 c83 w84 a85 hS86 hF87; clear hF76 hS78
    refine ev_runK 1 hF87 [0,1,8,10,11] (l':=[(10,nS g82 L79 c83),(11,nI x42),(8,nI (rNeed i2 0)),(0,nP b0 0),(1,nI i1)]) (w':=w84) (by kernel_rfl) ?_
    intro a89 hF88; clear hF87
    refine wpList_nil ?_
    refine blockN ?_
    refine thenN (wp_region_lit ?_)
    refine ev_runK 3 hF88 [0,1,8,10,11] (l':=[(11,nI (IntKind.i64.wrap (x42+1))),(10,nS g82 L79 c83),(8,nI (rNeed i2 0)),(0,nP b0 0),(1,nI i1)]) (w':=w84) (by kernel_rfl) ?_
    intro a91 hF90; clear hF88
    refine wpList_nil ?_
    exact thenN ⟨k43,Nat.lt_succ_self _,nS g82 L79 c83,L79,IntKind.i64.wrap (x42+1),hF90,hS86,hm81⟩
   rw [hc56] at hF54
   have hm92:=ifNot hc56 hm49; clear hm49
   refine ev_condF hF54 rfl rfl ?_
   refine wp_exit ?_
   refine thenE ?_
   refine thenE ?_
   refine blockE ?_
   refine thenN (wp_seq (wp_region_lit ?_))
   refine ev_runK 3 hF54 [6,7] (l':=[(7,nI 0),(6,.slice p50 L40.length c51)]) (w':=w45) (by kernel_rfl) ?_
   intro a94 hF93; clear hF54
   refine wpList_nil (thenN ?_)
   refine wp_ret ?_
   have hS95:=hS47.pick1
   clear hS47
   simp only [Option.some.injEq,Prod.mk.injEq] at hm92
   obtain ⟨rfl,rfl,rfl⟩:=hm92
   refine ev_ret hF93 [6,7] (.tuple #[.slice p50 L40.length c51,nI 0]) rfl rfl rfl ?_
   exact ⟨_,rfl,hS95⟩
 · skip
   refine wp_region_lit ?_
   refine ev_runs 3 hF12 (l':=[(21,nP b0 0),(20,nP b0 0),(19,nP b0 0),(8,nI (rNeed i2 0)),(0,nP b0 0),(1,nI i1),(2,nI i2)]) (w':=w8) (by kernel_rfl) ?_
   intro a100 hF99; clear hF12
   refine ev_one (nP ab0 0) w8 hF99 (by kernel_rfl) rfl (by kernel_rfl) (run_loadV rfl rfl (run_loadS rfl rfl (St.rhsee (k:=0) hS10 rfl).1)) (l':=[(22,nP ab0 0),(21,nP b0 0),(20,nP b0 0),(19,nP b0 0),(8,nI (rNeed i2 0)),(0,nP b0 0),(1,nI i1),(2,nI i2)]) (by kernel_rfl) ?_
   intro a102 hF101; clear hF99
   refine ev_runs 1 hF101 (l':=[(23,nI i1),(22,nP ab0 0),(21,nP b0 0),(20,nP b0 0),(19,nP b0 0),(8,nI (rNeed i2 0)),(0,nP b0 0),(1,nI i1),(2,nI i2)]) (w':=w8) (by kernel_rfl) ?_
   intro a104 hF103; clear hF101
   refine ev_call 104 #[nP ab0 0,nI i1] hF103 rfl rfl (by kernel_rfl) rfl (by kernel_rfl) (fun w=>by kernel_rfl) ?_
   refine (q_Kind hS10).mono ?_
   rintro _ w105 ⟨rfl,hS107⟩ a106 hF108; clear hF103 hS10
   refine ev_runs 3 hF108 (l':=[(27,.bool ((aKind s0.a.c i1) != i2)),(26,.bool ((aKind s0.a.c i1) != i2)),(25,nI i2),(24,nI (aKind s0.a.c i1)),(23,nI i1),(22,nP ab0 0),(21,nP b0 0),(20,nP b0 0),(19,nP b0 0),(8,nI (rNeed i2 0)),(0,nP b0 0),(1,nI i1),(2,nI i2)]) (w':=w105) (by kernel_rfl) ?_
   intro a110 hF109; clear hF108
   cases hc111:((aKind s0.a.c i1) != i2)
   case true =>
    rw [hc111] at hF109
    have hm112:=ifYes hc111 hm; clear hm
    refine ev_runK 9 hF109 [0,1,8,36] (l':=[(36,.bool true),(8,nI (rNeed i2 0)),(0,nP b0 0),(1,nI i1)]) (w':=w105) (by kernel_rfl) ?_
    intro a114 hF113; clear hF109
    refine wpList_nil ?_
    exact thenN ⟨true,hF113,hS107,hm112⟩
   rw [hc111] at hF109
   have hm115:=ifNot hc111 hm; clear hm
   refine ev_runs 3 hF109 (l':=[(30,nP b0 0),(29,nP b0 0),(28,nP b0 0),(27,.bool false),(26,.bool false),(25,nI i2),(24,nI (aKind s0.a.c i1)),(23,nI i1),(22,nP ab0 0),(21,nP b0 0),(20,nP b0 0),(19,nP b0 0),(8,nI (rNeed i2 0)),(0,nP b0 0),(1,nI i1),(2,nI i2)]) (w':=w105) (by kernel_rfl) ?_
   intro a117 hF116; clear hF109
   refine ev_one (nP ab0 0) w105 hF116 (by kernel_rfl) rfl (by kernel_rfl) (run_loadV rfl rfl (run_loadS rfl rfl (St.rhsee (k:=0) hS107 rfl).1)) (l':=[(31,nP ab0 0),(30,nP b0 0),(29,nP b0 0),(28,nP b0 0),(27,.bool false),(26,.bool false),(25,nI i2),(24,nI (aKind s0.a.c i1)),(23,nI i1),(22,nP ab0 0),(21,nP b0 0),(20,nP b0 0),(19,nP b0 0),(8,nI (rNeed i2 0)),(0,nP b0 0),(1,nI i1),(2,nI i2)]) (by kernel_rfl) ?_
   intro a119 hF118; clear hF116
   refine ev_runs 1 hF118 (l':=[(32,nI i1),(31,nP ab0 0),(30,nP b0 0),(29,nP b0 0),(28,nP b0 0),(27,.bool false),(26,.bool false),(25,nI i2),(24,nI (aKind s0.a.c i1)),(23,nI i1),(22,nP ab0 0),(21,nP b0 0),(20,nP b0 0),(19,nP b0 0),(8,nI (rNeed i2 0)),(0,nP b0 0),(1,nI i1),(2,nI i2)]) (w':=w105) (by kernel_rfl) ?_
   intro a121 hF120; clear hF118
   refine ev_call 116 #[nP ab0 0,nI i1] hF120 rfl rfl (by kernel_rfl) rfl (by kernel_rfl) (fun w=>by kernel_rfl) ?_
   refine (q_Len hS107).mono ?_
   rintro _ w122 ⟨rfl,hS124⟩ a123 hF125; clear hF120 hS107
   refine ev_runK 3 hF125 [0,1,8,36] (l':=[(36,.bool ((aLen s0.a.c i1) != (rNeed i2 0))),(8,nI (rNeed i2 0)),(0,nP b0 0),(1,nI i1)]) (w':=w122) (by kernel_rfl) ?_
   intro a127 hF126; clear hF125
   refine wpList_nil ?_
   exact thenN ⟨(aLen s0.a.c i1) != (rNeed i2 0),hF126,hS124,hm115⟩
def ref11_put.j7 (x29:Int) (rec33:HSt→Int→Int→Option (Int×HSt)) (s59:HSt) (x60:Int):Option (Int×HSt):=rec33 s59 (IntKind.i64.wrap (x29+1)) x60
def ref11_put.j6 (i1:Int) (L3:List Int) (L9:List Int) (s28:HSt) (x29:Int) (x30:Int) (rec33:HSt→Int→Int→Option (Int×HSt)) (y38:Bool):Option (Int×HSt):=(if (y38) then (if (inR x29 L9.length) then (if (inR x29 L3.length) then (if ((atI L9 x29) != (atI L3 x29)) then bind2 (pStore i1 x29 (atI L3 x29) s28) fun x80 s81=>ref11_put.j7 x29 rec33 s81 x80 else ref11_put.j7 x29 rec33 s28 x30) else none) else none) else some (x30,s28))
def ref11_put.l5b (i1:Int) (L3:List Int) (L9:List Int) (rec33:HSt→Int→Int→Option (Int×HSt)) (s28:HSt) (x29:Int) (x30:Int):Option (Int×HSt):=(if (decide (x29<(L9.length:Int))) then ref11_put.j6 i1 L3 L9 s28 x29 x30 rec33 (x30 == 0) else ref11_put.j6 i1 L3 L9 s28 x29 x30 rec33 false)
def ref11_put.l5 (i1:Int) (L3:List Int) (L9:List Int):Nat→HSt→Int→Int→Option (Int×HSt)
  | 0=>fun _ _ _=>none
  | kI+1=>ref11_put.l5b i1 L3 L9 (ref11_put.l5 i1 L3 L9 kI)
def ref11_put.m (k:Nat) (s0:HSt) (i1:Int) (i2:Int) (L3:List Int):Option (Int×HSt):=bind3 (ref11_words.m k s0 i1 i2) fun L9 x10 s11=>ref11_put.l5 i1 L3 L9 k s11 0 x10
theorem ref11_put.ok {w0 w:World} {F0:List Nat} {ps:List Piece} {k:Nat} {b0 ab0 sb0 g0 cb0:Nat} {s0:HSt} {i1:Int} {i2:Int} {v3:Value} {L3:List Int} {r0:Int} {t0:HSt} (hS:St w0 F0 (RHeapP b0 ab0 sb0 g0 cb0 s0::RowP (v3) L3::ps) w) (hm:ref11_put.m k s0 i1 i2 L3=some (r0,t0)) :
    Calls Tryz.prog 108 #[nP b0 0,nI i1,nI i2,v3] w fun e w'=>e=.returned (.int .i64 r0)∧St w0 F0 (RHeapP b0 ab0 sb0 g0 cb0 t0::RowP (v3) L3::ps) w':=by
 refine ev_enterL 47 [nP b0 0,nI i1,nI i2,v3] Tryz.func108 rfl rfl (by simp) ?_
 intro a hF
 have hF0:Fr 47 a [(0,nP b0 0),(1,nI i1),(2,nI i2),(3,v3)]:=hF; clear hF
 unfold ref11_put.m at hm
 obtain ⟨hl4,p1,c2,rfl,hp3⟩:=St.shape hS 1 rfl
 refine wp_seq (wp_region_lit ?_)
 refine ev_runK 1 hF0 [0,1,2,3] (l':=[(0,nP b0 0),(1,nI i1),(2,nI i2),(3,.slice p1 L3.length c2)]) (w':=w) (by kernel_rfl) ?_
 intro a6 hF5; clear hF0
 refine wpList_nil (thenN (wp_seq (wp_region_lit ?_)))
 refine ev_runs 3 hF5 (l':=[(15,nI i2),(14,nI i1),(13,nP b0 0),(0,nP b0 0),(1,nI i1),(2,nI i2),(3,.slice p1 L3.length c2)]) (w':=w) (by kernel_rfl) ?_
 intro a8 hF7; clear hF5
 refine ev_call 120 #[nP b0 0,nI i1,nI i2] hF7 rfl rfl (by kernel_rfl) rfl (by kernel_rfl) (fun w=>by kernel_rfl) ?_
 obtain ⟨L9,x10,s11,hx12,hm13⟩:=bind3E hm; clear hm
 refine (ref11_words.ok hS hx12).mono ?_
 rintro _ w14 ⟨z18,rfl,hS16⟩ a15 hF17; clear hF7 hS
 obtain ⟨hl23,p20,c21,rfl,hp22⟩:=St.shape hS16 1 rfl
 refine ev_runK 5 hF17 [0,1,3,9,10] (l':=[(10,nI x10),(9,.slice p20 L9.length c21),(0,nP b0 0),(1,nI i1),(3,.slice p1 L3.length c2)]) (w':=w14) (by kernel_rfl) ?_
 intro a25 hF24; clear hF17
 refine wpList_nil (thenN (wp_seq (wp_seq (wp_region_lit ?_))))
 refine ev_runs 1 hF24 (l':=[(11,nI 0),(10,nI x10),(9,.slice p20 L9.length c21),(0,nP b0 0),(1,nI i1),(3,.slice p1 L3.length c2)]) (w':=w14) (by kernel_rfl) ?_
 intro a27 hF26; clear hF24
 refine wpList_nil (thenN ?_)
 refine wp_block ?_
 refine wp_loop_ghost (fun kI aI wI=>∃ (s28:HSt) (x29:Int) (x30:Int),Fr 47 aI [(11,nI x29),(10,nI x30),(9,.slice p20 L9.length c21),(0,nP b0 0),(1,nI i1),(3,.slice p1 L3.length c2)]∧St w0 F0 (RHeapP b0 ab0 sb0 g0 cb0 s28::RowP (.slice p20 L9.length c21) L9::RowP (.slice p1 L3.length c2) L3::ps) wI∧ref11_put.l5 i1 L3 L9 kI s28 x29 x30=some (r0,t0)) k ⟨s11,0,x10,hF26,hS16,hm13⟩ ?_
 rintro k31 a32 w33 ⟨s28,x29,x30,hF34,hS35,hm36⟩
 clear hF26 hS16 hm13
 rcases k31 with _ | k31
 · cases hm36
 have hm37:ref11_put.l5b i1 L3 L9 (ref11_put.l5 i1 L3 L9 k31) s28 x29 x30=some (r0,t0):=hm36
 clear hm36
 unfold ref11_put.l5b at hm37
 refine wp_seq (wp_seq ?_)
 refine joinQ (fun aI wI=>∃ (y38:Bool),Fr 47 aI [(26,.bool (y38)),(11,nI x29),(10,nI x30),(9,.slice p20 L9.length c21),(0,nP b0 0),(1,nI i1),(3,.slice p1 L3.length c2)]∧St w0 F0 (RHeapP b0 ab0 sb0 g0 cb0 s28::RowP (.slice p20 L9.length c21) L9::RowP (.slice p1 L3.length c2) L3::ps) wI∧ref11_put.j6 i1 L3 L9 s28 x29 x30 (ref11_put.l5 i1 L3 L9 k31) y38=some (r0,t0)) ?_ ?_
 rotate_left
 · rintro a40 w41 ⟨y38,hF42,hS43,hm44⟩
   clear hF34 hS35 hm37
   unfold ref11_put.j6 at hm44
   refine thenN ?_
   cases hc46:(y38)
   case true =>
    rw [hc46] at hF42
    have hm47:=ifYes hc46 hm44; clear hm44
    refine ev_condT hF42 rfl rfl ?_
    refine wp_skip ?_
    have hF48:=hF42.keep [0,1,3,9,10,11]
    clear hF42
    refine thenN (wp_seq ?_)
    refine wp_block ?_
    refine wp_seq ?_
    obtain ⟨hc49,hm50⟩:=ifTE hm47; clear hm47
    obtain ⟨g51,rfl⟩:=hp22.resolve_left (by have:=inR_spec hc49; omega)
    obtain ⟨hc52,hm53⟩:=ifTE hm50; clear hm50
    obtain ⟨g54,rfl⟩:=hp3.resolve_left (by have:=inR_spec hc52; omega)
    have hS55:=hS43.pick2.pick2
    clear hS43
    have hS56:=hS55.drew; clear hS55
    refine any_start (fun wS=>∃ qs,St w0 F0 (RowP (nS g51 L9 c21) L9::RowP (nS g54 L3 c2) L3::qs) wS) 9 #[false,false,false,false,false,false,false,false,false] (by kernel_rfl) (by kernel_rfl) (by kernel_rfl) ?_
    refine any_many 9 [(0,some (nS g51 L9 c21)),(1,some (nI x29)),(2,some (nP g51 (x29.toNat))),(3,some (nI (atI L9 x29))),(4,some (nS g54 L3 c2)),(5,some (nI x29)),(6,some (nP g54 (x29.toNat))),(7,some (nI (atI L3 x29))),(8,some (.bool ((atI L9 x29) != (atI L3 x29))))] [0,1,3,9,10,11,37] #[true,true,true,true,true,true,true,true,true] (by rfl) hF48 (by kernel_rfl) (by kernel_rfl) (by exact ⟨fun wS hw=>by kernel_rfl,fun wS hw=>by kernel_rfl,fun wS hw=>run_idx rfl rfl rfl rfl rfl (inR_spec hc49).1 (inR_spec hc49).2 _,fun wS hw=>run_load1 rfl rfl rfl (hw.elim fun qs hw=>hw.atI 0 rfl hc49),fun wS hw=>by kernel_rfl,fun wS hw=>by kernel_rfl,fun wS hw=>run_idx rfl rfl rfl rfl rfl (inR_spec hc52).1 (inR_spec hc52).2 _,fun wS hw=>run_load1 rfl rfl rfl (hw.elim fun qs hw=>hw.atI 1 rfl hc52),fun wS hw=>by kernel_rfl,trivial⟩) (fun _ _ _ _ _ h=>h) ⟨_,hS56⟩ (l':=[(37,.bool ((atI L9 x29) != (atI L3 x29))),(11,nI x29),(10,nI x30),(9,nS g51 L9 c21),(0,nP b0 0),(1,nI i1),(3,nS g54 L3 c2)]) (by kernel_rfl) ?_
    intro a58 hF57; clear hF48
    refine any_done (by kernel_rfl) ?_
    refine thenN ?_
    refine joinQ (fun aI wI=>∃ (s59:HSt) (x60:Int),Fr 47 aI [(11,nI x29),(10,nI x60),(9,nS g51 L9 c21),(0,nP b0 0),(1,nI i1),(3,nS g54 L3 c2)]∧St w0 F0 (RowP (nS g51 L9 c21) L9::RowP (nS g54 L3 c2) L3::RHeapP b0 ab0 sb0 g0 cb0 s59::ps) wI∧ref11_put.j7 x29 (ref11_put.l5 i1 L3 L9 k31) s59 x60=some (r0,t0)) ?_ ?_
    rotate_left
    · rintro a62 w63 ⟨s59,x60,hF64,hS65,hm66⟩
      clear hF57 hS56 hm53
      unfold ref11_put.j7 at hm66
      refine blockN ?_
      refine thenN (wp_region_lit ?_)
      refine ev_runK 3 hF64 [0,1,3,9,10,11] (l':=[(11,nI (IntKind.i64.wrap (x29+1))),(10,nI x60),(9,nS g51 L9 c21),(0,nP b0 0),(1,nI i1),(3,nS g54 L3 c2)]) (w':=w63) (by kernel_rfl) ?_
      intro a69 hF68; clear hF64
      refine wpList_nil ?_
      have hS70:=hS65.pick1.pick1.pick2
      clear hS65
      exact thenN ⟨k31,Nat.lt_succ_self _,s59,IntKind.i64.wrap (x29+1),x60,hF68,hS70,hm66⟩
    · skip
      cases hc71:((atI L9 x29) != (atI L3 x29))
      case true =>
       rw [hc71] at hF57
       have hm72:=ifYes hc71 hm53; clear hm53
       refine ev_condT hF57 rfl rfl ?_
       refine wp_region_lit ?_
       refine ev_runs 5 hF57 (l':=[(42,nI x29),(41,nS g54 L3 c2),(40,nI x29),(39,nI i1),(38,nP b0 0),(37,.bool true),(11,nI x29),(10,nI x30),(9,nS g51 L9 c21),(0,nP b0 0),(1,nI i1),(3,nS g54 L3 c2)]) (w':=w41.drew) (by kernel_rfl) ?_
       intro a74 hF73; clear hF57
       refine ev_one (nP g54 (x29.toNat)) (w41.drew) hF73 (by kernel_rfl) rfl (by kernel_rfl) (run_idx rfl rfl rfl rfl rfl (inR_spec hc52).1 (inR_spec hc52).2 _) (l':=[(43,nP g54 (x29.toNat)),(42,nI x29),(41,nS g54 L3 c2),(40,nI x29),(39,nI i1),(38,nP b0 0),(37,.bool true),(11,nI x29),(10,nI x30),(9,nS g51 L9 c21),(0,nP b0 0),(1,nI i1),(3,nS g54 L3 c2)]) (by kernel_rfl) ?_
       intro a76 hF75; clear hF73
       refine ev_one (nI (atI L3 x29)) (w41.drew) hF75 (by kernel_rfl) rfl (by kernel_rfl) (run_load1 rfl rfl rfl (hS56.atI 1 rfl hc52)) (l':=[(44,nI (atI L3 x29)),(43,nP g54 (x29.toNat)),(42,nI x29),(41,nS g54 L3 c2),(40,nI x29),(39,nI i1),(38,nP b0 0),(37,.bool true),(11,nI x29),(10,nI x30),(9,nS g51 L9 c21),(0,nP b0 0),(1,nI i1),(3,nS g54 L3 c2)]) (by kernel_rfl) ?_
       intro a78 hF77; clear hF75
       have hS79:=hS56.pick2
       clear hS56
       refine ev_call 23 #[nP b0 0,nI i1,nI x29,nI (atI L3 x29)] hF77 rfl rfl (by kernel_rfl) rfl (by kernel_rfl) (fun w=>by kernel_rfl) ?_
       obtain ⟨x80,s81,hx82,hm83⟩:=bind2E hm72; clear hm72
       refine (q_Store hS79 hx82).mono ?_
       rintro _ w84 ⟨rfl,hS86⟩ a85 hF87; clear hF77 hS79
       refine ev_runK 1 hF87 [0,1,3,9,10,11] (l':=[(10,nI x80),(11,nI x29),(9,nS g51 L9 c21),(0,nP b0 0),(1,nI i1),(3,nS g54 L3 c2)]) (w':=w84) (by kernel_rfl) ?_
       intro a89 hF88; clear hF87
       refine wpList_nil ?_
       have hF90:Fr 47 a89 [(11,nI x29),(10,nI x80),(9,nS g51 L9 c21),(0,nP b0 0),(1,nI i1),(3,nS g54 L3 c2)]:=Fr.re hF88 (by kernel_rfl)
       clear hF88
       have hS91:=hS86.pick2.pick2
       clear hS86
       exact thenN ⟨s81,x80,hF90,hS91,hm83⟩
      rw [hc71] at hF57
      have hm92:=ifNot hc71 hm53; clear hm53
      refine ev_condF hF57 rfl rfl ?_
      refine wp_skip ?_
      have hF93:=hF57.keep [0,1,3,9,10,11]
      clear hF57
      exact thenN ⟨s28,x30,hF93,hS56,hm92⟩
   rw [hc46] at hF42
   have hm94:=ifNot hc46 hm44; clear hm44
   refine ev_condF hF42 rfl rfl ?_
   refine wp_exit ?_
   refine thenE ?_
   refine thenE ?_
   refine blockE ?_
   refine thenN (wp_seq (wp_region_lit ?_))
   refine ev_runK 2 hF42 [8] (l':=[(8,nI x30)]) (w':=w41) (by kernel_rfl) ?_
   intro a96 hF95; clear hF42
   refine wpList_nil ?_
   have hS97:=hS43.pick1.drop
   clear hS43
   refine thenN ?_
   refine wp_ret ?_
   simp only [Option.some.injEq,Prod.mk.injEq] at hm94
   obtain ⟨rfl,rfl⟩:=hm94
   refine ev_ret hF95 [8] (nI x30) rfl rfl rfl ?_
   exact ⟨rfl,hS97⟩
 · skip
   refine wp_region_lit ?_
   refine ev_runs 5 hF34 (l':=[(23,.bool (decide (x29<(L9.length:Int)))),(22,.bool (decide (x29<(L9.length:Int)))),(21,nI ((L9.length:Int))),(20,.slice p20 L9.length c21),(19,nI x29),(11,nI x29),(10,nI x30),(9,.slice p20 L9.length c21),(0,nP b0 0),(1,nI i1),(3,.slice p1 L3.length c2)]) (w':=w33) (by kernel_rfl) ?_
   intro a101 hF100; clear hF34
   cases hc102:(decide (x29<(L9.length:Int)))
   case true =>
    rw [hc102] at hF100
    have hm103:=ifYes hc102 hm37; clear hm37
    refine ev_runK 3 hF100 [0,1,3,9,10,11,26] (l':=[(26,.bool (x30 == 0)),(11,nI x29),(10,nI x30),(9,.slice p20 L9.length c21),(0,nP b0 0),(1,nI i1),(3,.slice p1 L3.length c2)]) (w':=w33) (by kernel_rfl) ?_
    intro a105 hF104; clear hF100
    refine wpList_nil ?_
    exact thenN ⟨x30 == 0,hF104,hS35,hm103⟩
   rw [hc102] at hF100
   have hm106:=ifNot hc102 hm37; clear hm37
   refine ev_runK 3 hF100 [0,1,3,9,10,11,26] (l':=[(26,.bool false),(11,nI x29),(10,nI x30),(9,.slice p20 L9.length c21),(0,nP b0 0),(1,nI i1),(3,.slice p1 L3.length c2)]) (w':=w33) (by kernel_rfl) ?_
   intro a108 hF107; clear hF100
   refine wpList_nil ?_
   exact thenN ⟨false,hF107,hS35,hm106⟩
def ref11_PutChan.m (k:Nat) (s0:HSt) (i1:Int) (i2:Ch):Option (Int×HSt):=bind1 (ref11_ptr.m k i2.buf) fun x26=>bind1 (ref11_ptr.m k i2.th) fun x33=>bind1 (ref11_ptr.m k i2.tt) fun x40=>bind1 (ref11_ptr.m k i2.sh) fun x47=>bind1 (ref11_ptr.m k i2.st) fun x54=>bind2 (ref11_put.m k s0 i1 1 [wrap64 (i2.cap * 2),wrap64 (i2.closed * 2),wrap64 (i2.count * 2),wrap64 (i2.start * 2),x26,x33,x40,x47,x54]) fun x65 s66=>some (x65,s66)
theorem ref11_PutChan.ok {w0 w:World} {F0:List Nat} {ps:List Piece} {k:Nat} {b0 ab0 sb0 g0 cb0:Nat} {s0:HSt} {i1:Int} {i2:Ch} {r0:Int} {t0:HSt} (hS:St w0 F0 (RHeapP b0 ab0 sb0 g0 cb0 s0::ps) w) (hm:ref11_PutChan.m k s0 i1 i2=some (r0,t0)) :
    Calls Tryz.prog 17 #[nP b0 0,nI i1,.agg #[nI (i2.cap),nI (i2.closed),nI (i2.count),nI (i2.start),nI (i2.buf),nI (i2.th),nI (i2.tt),nI (i2.sh),nI (i2.st)]] w fun e w'=>e=.returned (.int .i64 r0)∧St w0 F0 (RHeapP b0 ab0 sb0 g0 cb0 t0::ps) w':=by
 refine ev_enterL 38 [nP b0 0,nI i1,.agg #[nI (i2.cap),nI (i2.closed),nI (i2.count),nI (i2.start),nI (i2.buf),nI (i2.th),nI (i2.tt),nI (i2.sh),nI (i2.st)]] Tryz.func17 rfl rfl (by simp) ?_
 intro a hF
 have hF0:Fr 38 a [(0,nP b0 0),(1,nI i1),(2,.agg #[nI (i2.cap),nI (i2.closed),nI (i2.count),nI (i2.start),nI (i2.buf),nI (i2.th),nI (i2.tt),nI (i2.sh),nI (i2.st)])]:=hF; clear hF
 unfold ref11_PutChan.m at hm
 refine wp_seq (wp_region_lit ?_)
 refine ev_runs 1 hF0 (l':=[(5,nB w),(0,nP b0 0),(1,nI i1),(2,.agg #[nI (i2.cap),nI (i2.closed),nI (i2.count),nI (i2.start),nI (i2.buf),nI (i2.th),nI (i2.tt),nI (i2.sh),nI (i2.st)])]) (w':=w.alloc (.cells #[nI (i2.cap),nI (i2.closed),nI (i2.count),nI (i2.start),nI (i2.buf),nI (i2.th),nI (i2.tt),nI (i2.sh),nI (i2.st)] 23)) (by kernel_rfl) ?_
 intro a2 hF1; clear hF0
 have hS4:St w0 F0 (BlkP (w.heap.size) 23 #[nI (i2.cap),nI (i2.closed),nI (i2.count),nI (i2.start),nI (i2.buf),nI (i2.th),nI (i2.tt),nI (i2.sh),nI (i2.st)]::RHeapP b0 ab0 sb0 g0 cb0 s0::ps) (w.alloc (.cells #[nI (i2.cap),nI (i2.closed),nI (i2.count),nI (i2.start),nI (i2.buf),nI (i2.th),nI (i2.tt),nI (i2.sh),nI (i2.st)] 23)):=St.new hS #[nI (i2.cap),nI (i2.closed),nI (i2.count),nI (i2.start),nI (i2.buf),nI (i2.th),nI (i2.tt),nI (i2.sh),nI (i2.st)] 23
 refine ev_runK 1 hF1 [0,1,5] (l':=[(5,nB w),(0,nP b0 0),(1,nI i1)]) (w':=w.alloc (.cells #[nI (i2.cap),nI (i2.closed),nI (i2.count),nI (i2.start),nI (i2.buf),nI (i2.th),nI (i2.tt),nI (i2.sh),nI (i2.st)] 23)) (by kernel_rfl) ?_
 intro a6 hF5; clear hF1
 refine wpList_nil (thenN (wp_seq ?_))
 have hS7:=hS4.drew; clear hS4
 refine any_start (fun wS=>∃ qs,St w0 F0 (BlkP (w.heap.size) 23 #[nI (i2.cap),nI (i2.closed),nI (i2.count),nI (i2.start),nI (i2.buf),nI (i2.th),nI (i2.tt),nI (i2.sh),nI (i2.st)]::qs) wS) 32 #[false,false,false,false,false,false,false,false,false,false,false,false,false,false,false,false,false,false,false,false,false,false,false,false,false,false,false,false,false,false,false,false] (by kernel_rfl) (by kernel_rfl) (by kernel_rfl) ?_
 refine any_many 20 [(0,some (nP b0 0)),(1,some (nI i1)),(2,some (nB w)),(3,some (nI (i2.cap))),(5,some (nP (w.heap.size) 1)),(6,some (nI (i2.closed))),(8,some (nP (w.heap.size) 2)),(9,some (nI (i2.count))),(11,some (nP (w.heap.size) 3)),(12,some (nI (i2.start))),(14,some (nP (w.heap.size) 4)),(15,some (nI (i2.buf))),(17,some (nP (w.heap.size) 5)),(18,some (nI (i2.th))),(20,some (nP (w.heap.size) 6)),(21,some (nI (i2.tt))),(23,some (nP (w.heap.size) 7)),(24,some (nI (i2.sh))),(26,some (nP (w.heap.size) 8)),(27,some (nI (i2.st)))] [6,7,8,10,11,13,14,16,17,19,20,22,23,25,26,28,29,31,32,34,35,36,37] #[true,true,true,true,false,true,true,false,true,true,false,true,true,false,true,true,false,true,true,false,true,true,false,true,true,false,true,true,false,false,false,false] (by rfl) hF5 (by kernel_rfl) (by kernel_rfl) (by exact ⟨fun wS hw=>by kernel_rfl,fun wS hw=>by kernel_rfl,fun wS hw=>by kernel_rfl,fun wS hw=>hw.elim fun qs hw=>run_loadV rfl rfl (run_loadS rfl rfl (hw.cell 0 rfl 0 rfl)),fun wS hw=>by kernel_rfl,fun wS hw=>hw.elim fun qs hw=>run_loadV rfl rfl (run_loadS rfl rfl (hw.cell 0 rfl 1 rfl)),fun wS hw=>by kernel_rfl,fun wS hw=>hw.elim fun qs hw=>run_loadV rfl rfl (run_loadS rfl rfl (hw.cell 0 rfl 2 rfl)),fun wS hw=>by kernel_rfl,fun wS hw=>hw.elim fun qs hw=>run_loadV rfl rfl (run_loadS rfl rfl (hw.cell 0 rfl 3 rfl)),fun wS hw=>by kernel_rfl,fun wS hw=>hw.elim fun qs hw=>run_loadV rfl rfl (run_loadS rfl rfl (hw.cell 0 rfl 4 rfl)),fun wS hw=>by kernel_rfl,fun wS hw=>hw.elim fun qs hw=>run_loadV rfl rfl (run_loadS rfl rfl (hw.cell 0 rfl 5 rfl)),fun wS hw=>by kernel_rfl,fun wS hw=>hw.elim fun qs hw=>run_loadV rfl rfl (run_loadS rfl rfl (hw.cell 0 rfl 6 rfl)),fun wS hw=>by kernel_rfl,fun wS hw=>hw.elim fun qs hw=>run_loadV rfl rfl (run_loadS rfl rfl (hw.cell 0 rfl 7 rfl)),fun wS hw=>by kernel_rfl,fun wS hw=>hw.elim fun qs hw=>run_loadV rfl rfl (run_loadS rfl rfl (hw.cell 0 rfl 8 rfl)),trivial⟩) (fun _ _ _ _ _ h=>h) ⟨_,hS7⟩ (l':=[(34,nI (i2.st)),(31,nI (i2.sh)),(28,nI (i2.tt)),(25,nI (i2.th)),(22,nI (i2.buf)),(19,nI (i2.start)),(16,nI (i2.count)),(13,nI (i2.closed)),(10,nI (i2.cap)),(8,nI i1),(7,nP b0 0)]) (by kernel_rfl) ?_
 intro a9 hF8; clear hF5
 refine any_call 4 #[true,true,true,true,true,true,true,false,true,true,false,true,true,false,true,true,false,true,true,false,true,true,false,true,true,false,true,true,false,false,false,false] 109 #[nI (i2.cap)] hF8 rfl (by kernel_rfl) rfl rfl (by kernel_rfl) rfl (by kernel_rfl) (fun w=>by kernel_rfl) (by kernel_rfl) ?_
 refine (p_rInt hS7).mono ?_
 rintro _ w10 ⟨rfl,hS12⟩; clear hS7
 refine ⟨⟨_,hS12⟩,?_⟩
 intro a11 hF13; clear hF8
 refine any_call 7 #[true,true,true,true,true,true,true,true,true,true,false,true,true,false,true,true,false,true,true,false,true,true,false,true,true,false,true,true,false,false,false,false] 109 #[nI (i2.closed)] hF13 rfl (by kernel_rfl) rfl rfl (by kernel_rfl) rfl (by kernel_rfl) (fun w=>by kernel_rfl) (by kernel_rfl) ?_
 refine (p_rInt hS12).mono ?_
 rintro _ w14 ⟨rfl,hS16⟩; clear hS12
 refine ⟨⟨_,hS16⟩,?_⟩
 intro a15 hF17; clear hF13
 refine any_call 10 #[true,true,true,true,true,true,true,true,true,true,true,true,true,false,true,true,false,true,true,false,true,true,false,true,true,false,true,true,false,false,false,false] 109 #[nI (i2.count)] hF17 rfl (by kernel_rfl) rfl rfl (by kernel_rfl) rfl (by kernel_rfl) (fun w=>by kernel_rfl) (by kernel_rfl) ?_
 refine (p_rInt hS16).mono ?_
 rintro _ w18 ⟨rfl,hS20⟩; clear hS16
 refine ⟨⟨_,hS20⟩,?_⟩
 intro a19 hF21; clear hF17
 refine any_call 13 #[true,true,true,true,true,true,true,true,true,true,true,true,true,true,true,true,false,true,true,false,true,true,false,true,true,false,true,true,false,false,false,false] 109 #[nI (i2.start)] hF21 rfl (by kernel_rfl) rfl rfl (by kernel_rfl) rfl (by kernel_rfl) (fun w=>by kernel_rfl) (by kernel_rfl) ?_
 refine (p_rInt hS20).mono ?_
 rintro _ w22 ⟨rfl,hS24⟩; clear hS20
 refine ⟨⟨_,hS24⟩,?_⟩
 intro a23 hF25; clear hF21
 refine any_call 16 #[true,true,true,true,true,true,true,true,true,true,true,true,true,true,true,true,true,true,true,false,true,true,false,true,true,false,true,true,false,false,false,false] 110 #[nI (i2.buf)] hF25 rfl (by kernel_rfl) rfl rfl (by kernel_rfl) rfl (by kernel_rfl) (fun w=>by kernel_rfl) (by kernel_rfl) ?_
 obtain ⟨x26,hx27,hm28⟩:=bind1E hm; clear hm
 refine (ref11_ptr.ok hS24 hx27).mono ?_
 rintro _ w29 ⟨rfl,hS31⟩; clear hS24
 refine ⟨⟨_,hS31⟩,?_⟩
 intro a30 hF32; clear hF25
 refine any_call 19 #[true,true,true,true,true,true,true,true,true,true,true,true,true,true,true,true,true,true,true,true,true,true,false,true,true,false,true,true,false,false,false,false] 110 #[nI (i2.th)] hF32 rfl (by kernel_rfl) rfl rfl (by kernel_rfl) rfl (by kernel_rfl) (fun w=>by kernel_rfl) (by kernel_rfl) ?_
 obtain ⟨x33,hx34,hm35⟩:=bind1E hm28; clear hm28
 refine (ref11_ptr.ok hS31 hx34).mono ?_
 rintro _ w36 ⟨rfl,hS38⟩; clear hS31
 refine ⟨⟨_,hS38⟩,?_⟩
 intro a37 hF39; clear hF32
 refine any_call 22 #[true,true,true,true,true,true,true,true,true,true,true,true,true,true,true,true,true,true,true,true,true,true,true,true,true,false,true,true,false,false,false,false] 110 #[nI (i2.tt)] hF39 rfl (by kernel_rfl) rfl rfl (by kernel_rfl) rfl (by kernel_rfl) (fun w=>by kernel_rfl) (by kernel_rfl) ?_
 obtain ⟨x40,hx41,hm42⟩:=bind1E hm35; clear hm35
 refine (ref11_ptr.ok hS38 hx41).mono ?_
 rintro _ w43 ⟨rfl,hS45⟩; clear hS38
 refine ⟨⟨_,hS45⟩,?_⟩
 intro a44 hF46; clear hF39
 refine any_call 25 #[true,true,true,true,true,true,true,true,true,true,true,true,true,true,true,true,true,true,true,true,true,true,true,true,true,true,true,true,false,false,false,false] 110 #[nI (i2.sh)] hF46 rfl (by kernel_rfl) rfl rfl (by kernel_rfl) rfl (by kernel_rfl) (fun w=>by kernel_rfl) (by kernel_rfl) ?_
 obtain ⟨x47,hx48,hm49⟩:=bind1E hm42; clear hm42
 refine (ref11_ptr.ok hS45 hx48).mono ?_
 rintro _ w50 ⟨rfl,hS52⟩; clear hS45
 refine ⟨⟨_,hS52⟩,?_⟩
 intro a51 hF53; clear hF46
 refine any_call 28 #[true,true,true,true,true,true,true,true,true,true,true,true,true,true,true,true,true,true,true,true,true,true,true,true,true,true,true,true,true,false,false,false] 110 #[nI (i2.st)] hF53 rfl (by kernel_rfl) rfl rfl (by kernel_rfl) rfl (by kernel_rfl) (fun w=>by kernel_rfl) (by kernel_rfl) ?_
 obtain ⟨x54,hx55,hm56⟩:=bind1E hm49; clear hm49
 refine (ref11_ptr.ok hS52 hx55).mono ?_
 rintro _ w57 ⟨rfl,hS59⟩; clear hS52
 refine ⟨⟨_,hS59⟩,?_⟩
 intro a58 hF60; clear hF53
 refine any_one 29 (by kernel_rfl) ?_
 have hS61:St w0 F0 (RowP (.slice (some ⟨w57.heap.size,0,none⟩) 9 9) [wrap64 (i2.cap * 2),wrap64 (i2.closed * 2),wrap64 (i2.count * 2),wrap64 (i2.start * 2),x26,x33,x40,x47,x54]::BlkP (w.heap.size) 23 #[nI (i2.cap),nI (i2.closed),nI (i2.count),nI (i2.start),nI (i2.buf),nI (i2.th),nI (i2.tt),nI (i2.sh),nI (i2.st)]::RHeapP b0 ab0 sb0 g0 cb0 s0::ps) (w57.alloc (.cells #[nI (wrap64 (i2.cap * 2)),nI (wrap64 (i2.closed * 2)),nI (wrap64 (i2.count * 2)),nI (wrap64 (i2.start * 2)),nI x26,nI x33,nI x40,nI x47,nI x54] 3)):=St.lit hS59 [wrap64 (i2.cap * 2),wrap64 (i2.closed * 2),wrap64 (i2.count * 2),wrap64 (i2.start * 2),x26,x33,x40,x47,x54] (by unfold maxLen; simp)
 clear hS59
 refine op_step 29 #[true,true,true,true,true,true,true,true,true,true,true,true,true,true,true,true,true,true,true,true,true,true,true,true,true,true,true,true,true,true,false,false] (.slice (some ⟨w57.heap.size,0,none⟩) 9 9) (w57.alloc (.cells #[nI (wrap64 (i2.cap * 2)),nI (wrap64 (i2.closed * 2)),nI (wrap64 (i2.count * 2)),nI (wrap64 (i2.start * 2)),nI x26,nI x33,nI x40,nI x47,nI x54] 3)) hF60 rfl (by kernel_rfl) rfl (by kernel_rfl) (by kernel_rfl) (l':=[(36,.slice (some ⟨w57.heap.size,0,none⟩) 9 9),(35,nI x54),(32,nI x47),(29,nI x40),(26,nI x33),(23,nI x26),(20,nI (wrap64 (i2.start * 2))),(17,nI (wrap64 (i2.count * 2))),(14,nI (wrap64 (i2.closed * 2))),(11,nI (wrap64 (i2.cap * 2))),(34,nI (i2.st)),(31,nI (i2.sh)),(28,nI (i2.tt)),(25,nI (i2.th)),(22,nI (i2.buf)),(19,nI (i2.start)),(16,nI (i2.count)),(13,nI (i2.closed)),(10,nI (i2.cap)),(8,nI i1),(7,nP b0 0)]) (by kernel_rfl) ⟨_,hS61.pick1⟩ (by kernel_rfl) ?_
 intro a63 hF62; clear hF60
 have hS64:=hS61.pick2
 clear hS61
 refine any_call 30 #[true,true,true,true,true,true,true,true,true,true,true,true,true,true,true,true,true,true,true,true,true,true,true,true,true,true,true,true,true,true,true,false] 108 #[nP b0 0,nI i1,nI 1,.slice (some ⟨w57.heap.size,0,none⟩) 9 9] hF62 rfl (by kernel_rfl) rfl rfl (by kernel_rfl) rfl (by kernel_rfl) (fun w=>by kernel_rfl) (by kernel_rfl) ?_
 obtain ⟨x65,s66,hx67,hm68⟩:=bind2E hm56; clear hm56
 refine (ref11_put.ok hS64 hx67).mono ?_
 rintro _ w69 ⟨rfl,hS71⟩; clear hS64
 refine ⟨⟨_,hS71.pick2⟩,?_⟩
 intro a70 hF72; clear hF62
 refine any_many 1 [(31,some (nI x65))] [6] #[true,true,true,true,true,true,true,true,true,true,true,true,true,true,true,true,true,true,true,true,true,true,true,true,true,true,true,true,true,true,true,true] (by rfl) hF72 (by kernel_rfl) (by kernel_rfl) (by exact ⟨fun wS hw=>by kernel_rfl,trivial⟩) (fun _ _ _ _ _ h=>h) ⟨_,hS71.pick2⟩ (l':=[(6,nI x65)]) (by kernel_rfl) ?_
 intro a74 hF73; clear hF72
 refine any_done (by kernel_rfl) ?_
 have hS75:=hS71.pick1.drop.pick1.drop
 clear hS71
 refine thenN ?_
 refine wp_ret ?_
 simp only [Option.some.injEq,Prod.mk.injEq] at hm68
 obtain ⟨rfl,rfl⟩:=hm68
 refine ev_ret hF73 [6] (nI x65) rfl rfl rfl ?_
 exact ⟨rfl,hS75⟩
def ref11_PutSudog.m (k:Nat) (s0:HSt) (i1:Int) (i2:Su):Option (Int×HSt):=bind1 (ref11_ptr.m k i2.gor) fun x10=>bind1 (ref11_ptr.m k i2.chan) fun x17=>bind1 (ref11_ptr.m k i2.next) fun x24=>bind1 (ref11_ptr.m k i2.more) fun x39=>bind2 (ref11_put.m k s0 i1 3 [x10,x17,i2.value,x24,wrap64 (i2.to * 2),wrap64 (i2.reg * 2),x39]) fun x50 s51=>some (x50,s51)
theorem ref11_PutSudog.ok {w0 w:World} {F0:List Nat} {ps:List Piece} {k:Nat} {b0 ab0 sb0 g0 cb0:Nat} {s0:HSt} {i1:Int} {i2:Su} {r0:Int} {t0:HSt} (hS:St w0 F0 (RHeapP b0 ab0 sb0 g0 cb0 s0::ps) w) (hm:ref11_PutSudog.m k s0 i1 i2=some (r0,t0)) :
    Calls Tryz.prog 19 #[nP b0 0,nI i1,.agg #[nI (i2.gor),nI (i2.chan),nI (i2.value),nI (i2.next),nI (i2.to),nI (i2.reg),nI (i2.more)]] w fun e w'=>e=.returned (.int .i64 r0)∧St w0 F0 (RHeapP b0 ab0 sb0 g0 cb0 t0::ps) w':=by
 refine ev_enterL 31 [nP b0 0,nI i1,.agg #[nI (i2.gor),nI (i2.chan),nI (i2.value),nI (i2.next),nI (i2.to),nI (i2.reg),nI (i2.more)]] Tryz.func19 rfl rfl (by simp) ?_
 intro a hF
 have hF0:Fr 31 a [(0,nP b0 0),(1,nI i1),(2,.agg #[nI (i2.gor),nI (i2.chan),nI (i2.value),nI (i2.next),nI (i2.to),nI (i2.reg),nI (i2.more)])]:=hF; clear hF
 unfold ref11_PutSudog.m at hm
 refine wp_seq (wp_region_lit ?_)
 refine ev_runs 1 hF0 (l':=[(5,nB w),(0,nP b0 0),(1,nI i1),(2,.agg #[nI (i2.gor),nI (i2.chan),nI (i2.value),nI (i2.next),nI (i2.to),nI (i2.reg),nI (i2.more)])]) (w':=w.alloc (.cells #[nI (i2.gor),nI (i2.chan),nI (i2.value),nI (i2.next),nI (i2.to),nI (i2.reg),nI (i2.more)] 25)) (by kernel_rfl) ?_
 intro a2 hF1; clear hF0
 have hS4:St w0 F0 (BlkP (w.heap.size) 25 #[nI (i2.gor),nI (i2.chan),nI (i2.value),nI (i2.next),nI (i2.to),nI (i2.reg),nI (i2.more)]::RHeapP b0 ab0 sb0 g0 cb0 s0::ps) (w.alloc (.cells #[nI (i2.gor),nI (i2.chan),nI (i2.value),nI (i2.next),nI (i2.to),nI (i2.reg),nI (i2.more)] 25)):=St.new hS #[nI (i2.gor),nI (i2.chan),nI (i2.value),nI (i2.next),nI (i2.to),nI (i2.reg),nI (i2.more)] 25
 refine ev_runK 1 hF1 [0,1,5] (l':=[(5,nB w),(0,nP b0 0),(1,nI i1)]) (w':=w.alloc (.cells #[nI (i2.gor),nI (i2.chan),nI (i2.value),nI (i2.next),nI (i2.to),nI (i2.reg),nI (i2.more)] 25)) (by kernel_rfl) ?_
 intro a6 hF5; clear hF1
 refine wpList_nil (thenN (wp_seq ?_))
 have hS7:=hS4.drew; clear hS4
 refine any_start (fun wS=>∃ qs,St w0 F0 (BlkP (w.heap.size) 25 #[nI (i2.gor),nI (i2.chan),nI (i2.value),nI (i2.next),nI (i2.to),nI (i2.reg),nI (i2.more)]::qs) wS) 25 #[false,false,false,false,false,false,false,false,false,false,false,false,false,false,false,false,false,false,false,false,false,false,false,false,false] (by kernel_rfl) (by kernel_rfl) (by kernel_rfl) ?_
 refine any_many 16 [(0,some (nP b0 0)),(1,some (nI i1)),(2,some (nB w)),(3,some (nI (i2.gor))),(5,some (nP (w.heap.size) 1)),(6,some (nI (i2.chan))),(8,some (nP (w.heap.size) 2)),(9,some (nI (i2.value))),(10,some (nP (w.heap.size) 3)),(11,some (nI (i2.next))),(13,some (nP (w.heap.size) 4)),(14,some (nI (i2.to))),(16,some (nP (w.heap.size) 5)),(17,some (nI (i2.reg))),(19,some (nP (w.heap.size) 6)),(20,some (nI (i2.more)))] [6,7,8,10,11,13,14,16,18,19,21,22,24,25,27,28,29,30] #[true,true,true,true,false,true,true,false,true,true,true,true,false,true,true,false,true,true,false,true,true,false,false,false,false] (by rfl) hF5 (by kernel_rfl) (by kernel_rfl) (by exact ⟨fun wS hw=>by kernel_rfl,fun wS hw=>by kernel_rfl,fun wS hw=>by kernel_rfl,fun wS hw=>hw.elim fun qs hw=>run_loadV rfl rfl (run_loadS rfl rfl (hw.cell 0 rfl 0 rfl)),fun wS hw=>by kernel_rfl,fun wS hw=>hw.elim fun qs hw=>run_loadV rfl rfl (run_loadS rfl rfl (hw.cell 0 rfl 1 rfl)),fun wS hw=>by kernel_rfl,fun wS hw=>hw.elim fun qs hw=>run_loadV rfl rfl (run_loadS rfl rfl (hw.cell 0 rfl 2 rfl)),fun wS hw=>by kernel_rfl,fun wS hw=>hw.elim fun qs hw=>run_loadV rfl rfl (run_loadS rfl rfl (hw.cell 0 rfl 3 rfl)),fun wS hw=>by kernel_rfl,fun wS hw=>hw.elim fun qs hw=>run_loadV rfl rfl (run_loadS rfl rfl (hw.cell 0 rfl 4 rfl)),fun wS hw=>by kernel_rfl,fun wS hw=>hw.elim fun qs hw=>run_loadV rfl rfl (run_loadS rfl rfl (hw.cell 0 rfl 5 rfl)),fun wS hw=>by kernel_rfl,fun wS hw=>hw.elim fun qs hw=>run_loadV rfl rfl (run_loadS rfl rfl (hw.cell 0 rfl 6 rfl)),trivial⟩) (fun _ _ _ _ _ h=>h) ⟨_,hS7⟩ (l':=[(27,nI (i2.more)),(24,nI (i2.reg)),(21,nI (i2.to)),(18,nI (i2.next)),(16,nI (i2.value)),(13,nI (i2.chan)),(10,nI (i2.gor)),(8,nI i1),(7,nP b0 0)]) (by kernel_rfl) ?_
 intro a9 hF8; clear hF5
 refine any_call 4 #[true,true,true,true,true,true,true,false,true,true,true,true,false,true,true,false,true,true,false,true,true,false,false,false,false] 110 #[nI (i2.gor)] hF8 rfl (by kernel_rfl) rfl rfl (by kernel_rfl) rfl (by kernel_rfl) (fun w=>by kernel_rfl) (by kernel_rfl) ?_
 obtain ⟨x10,hx11,hm12⟩:=bind1E hm; clear hm
 refine (ref11_ptr.ok hS7 hx11).mono ?_
 rintro _ w13 ⟨rfl,hS15⟩; clear hS7
 refine ⟨⟨_,hS15⟩,?_⟩
 intro a14 hF16; clear hF8
 refine any_call 7 #[true,true,true,true,true,true,true,true,true,true,true,true,false,true,true,false,true,true,false,true,true,false,false,false,false] 110 #[nI (i2.chan)] hF16 rfl (by kernel_rfl) rfl rfl (by kernel_rfl) rfl (by kernel_rfl) (fun w=>by kernel_rfl) (by kernel_rfl) ?_
 obtain ⟨x17,hx18,hm19⟩:=bind1E hm12; clear hm12
 refine (ref11_ptr.ok hS15 hx18).mono ?_
 rintro _ w20 ⟨rfl,hS22⟩; clear hS15
 refine ⟨⟨_,hS22⟩,?_⟩
 intro a21 hF23; clear hF16
 refine any_call 12 #[true,true,true,true,true,true,true,true,true,true,true,true,true,true,true,false,true,true,false,true,true,false,false,false,false] 110 #[nI (i2.next)] hF23 rfl (by kernel_rfl) rfl rfl (by kernel_rfl) rfl (by kernel_rfl) (fun w=>by kernel_rfl) (by kernel_rfl) ?_
 obtain ⟨x24,hx25,hm26⟩:=bind1E hm19; clear hm19
 refine (ref11_ptr.ok hS22 hx25).mono ?_
 rintro _ w27 ⟨rfl,hS29⟩; clear hS22
 refine ⟨⟨_,hS29⟩,?_⟩
 intro a28 hF30; clear hF23
 refine any_call 15 #[true,true,true,true,true,true,true,true,true,true,true,true,true,true,true,true,true,true,false,true,true,false,false,false,false] 109 #[nI (i2.to)] hF30 rfl (by kernel_rfl) rfl rfl (by kernel_rfl) rfl (by kernel_rfl) (fun w=>by kernel_rfl) (by kernel_rfl) ?_
 refine (p_rInt hS29).mono ?_
 rintro _ w31 ⟨rfl,hS33⟩; clear hS29
 refine ⟨⟨_,hS33⟩,?_⟩
 intro a32 hF34; clear hF30
 refine any_call 18 #[true,true,true,true,true,true,true,true,true,true,true,true,true,true,true,true,true,true,true,true,true,false,false,false,false] 109 #[nI (i2.reg)] hF34 rfl (by kernel_rfl) rfl rfl (by kernel_rfl) rfl (by kernel_rfl) (fun w=>by kernel_rfl) (by kernel_rfl) ?_
 refine (p_rInt hS33).mono ?_
 rintro _ w35 ⟨rfl,hS37⟩; clear hS33
 refine ⟨⟨_,hS37⟩,?_⟩
 intro a36 hF38; clear hF34
 refine any_call 21 #[true,true,true,true,true,true,true,true,true,true,true,true,true,true,true,true,true,true,true,true,true,true,false,false,false] 110 #[nI (i2.more)] hF38 rfl (by kernel_rfl) rfl rfl (by kernel_rfl) rfl (by kernel_rfl) (fun w=>by kernel_rfl) (by kernel_rfl) ?_
 obtain ⟨x39,hx40,hm41⟩:=bind1E hm26; clear hm26
 refine (ref11_ptr.ok hS37 hx40).mono ?_
 rintro _ w42 ⟨rfl,hS44⟩; clear hS37
 refine ⟨⟨_,hS44⟩,?_⟩
 intro a43 hF45; clear hF38
 refine any_one 22 (by kernel_rfl) ?_
 have hS46:St w0 F0 (RowP (.slice (some ⟨w42.heap.size,0,none⟩) 7 7) [x10,x17,i2.value,x24,wrap64 (i2.to * 2),wrap64 (i2.reg * 2),x39]::BlkP (w.heap.size) 25 #[nI (i2.gor),nI (i2.chan),nI (i2.value),nI (i2.next),nI (i2.to),nI (i2.reg),nI (i2.more)]::RHeapP b0 ab0 sb0 g0 cb0 s0::ps) (w42.alloc (.cells #[nI x10,nI x17,nI (i2.value),nI x24,nI (wrap64 (i2.to * 2)),nI (wrap64 (i2.reg * 2)),nI x39] 3)):=St.lit hS44 [x10,x17,i2.value,x24,wrap64 (i2.to * 2),wrap64 (i2.reg * 2),x39] (by unfold maxLen; simp)
 clear hS44
 refine op_step 22 #[true,true,true,true,true,true,true,true,true,true,true,true,true,true,true,true,true,true,true,true,true,true,true,false,false] (.slice (some ⟨w42.heap.size,0,none⟩) 7 7) (w42.alloc (.cells #[nI x10,nI x17,nI (i2.value),nI x24,nI (wrap64 (i2.to * 2)),nI (wrap64 (i2.reg * 2)),nI x39] 3)) hF45 rfl (by kernel_rfl) rfl (by kernel_rfl) (by kernel_rfl) (l':=[(29,.slice (some ⟨w42.heap.size,0,none⟩) 7 7),(28,nI x39),(25,nI (wrap64 (i2.reg * 2))),(22,nI (wrap64 (i2.to * 2))),(19,nI x24),(14,nI x17),(11,nI x10),(27,nI (i2.more)),(24,nI (i2.reg)),(21,nI (i2.to)),(18,nI (i2.next)),(16,nI (i2.value)),(13,nI (i2.chan)),(10,nI (i2.gor)),(8,nI i1),(7,nP b0 0)]) (by kernel_rfl) ⟨_,hS46.pick1⟩ (by kernel_rfl) ?_
 intro a48 hF47; clear hF45
 have hS49:=hS46.pick2
 clear hS46
 refine any_call 23 #[true,true,true,true,true,true,true,true,true,true,true,true,true,true,true,true,true,true,true,true,true,true,true,true,false] 108 #[nP b0 0,nI i1,nI 3,.slice (some ⟨w42.heap.size,0,none⟩) 7 7] hF47 rfl (by kernel_rfl) rfl rfl (by kernel_rfl) rfl (by kernel_rfl) (fun w=>by kernel_rfl) (by kernel_rfl) ?_
 obtain ⟨x50,s51,hx52,hm53⟩:=bind2E hm41; clear hm41
 refine (ref11_put.ok hS49 hx52).mono ?_
 rintro _ w54 ⟨rfl,hS56⟩; clear hS49
 refine ⟨⟨_,hS56.pick2⟩,?_⟩
 intro a55 hF57; clear hF47
 refine any_many 1 [(24,some (nI x50))] [6] #[true,true,true,true,true,true,true,true,true,true,true,true,true,true,true,true,true,true,true,true,true,true,true,true,true] (by rfl) hF57 (by kernel_rfl) (by kernel_rfl) (by exact ⟨fun wS hw=>by kernel_rfl,trivial⟩) (fun _ _ _ _ _ h=>h) ⟨_,hS56.pick2⟩ (l':=[(6,nI x50)]) (by kernel_rfl) ?_
 intro a59 hF58; clear hF57
 refine any_done (by kernel_rfl) ?_
 have hS60:=hS56.pick1.drop.pick1.drop
 clear hS56
 refine thenN ?_
 refine wp_ret ?_
 simp only [Option.some.injEq,Prod.mk.injEq] at hm53
 obtain ⟨rfl,rfl⟩:=hm53
 refine ev_ret hF58 [6] (nI x50) rfl rfl rfl ?_
 exact ⟨rfl,hS60⟩
def ref11_PutGor.l1b (s0:HSt) (i1:Int) (i2:Gr) (k:Nat) (rec34:List Int→Int→Option (Int×HSt)) (L29:List Int) (x31:Int):Option (Int×HSt):=(if (decide (x31<6)) then (if (inR x31 6) then bind1 (pushM L29 (atI [i2.a,i2.b,i2.c,i2.d,i2.e,i2.f] x31)) fun L58=>rec34 L58 (IntKind.i64.wrap (x31+1)) else none) else bind1 (ref11_ptr.m k i2.sudogs) fun x76=>bind1 (pushM L29 x76) fun L85=>bind2 (ref11_put.m k s0 i1 4 L85) fun x95 s96=>some (x95,s96))
def ref11_PutGor.l1 (s0:HSt) (i1:Int) (i2:Gr) (k:Nat):Nat→List Int→Int→Option (Int×HSt)
  | 0=>fun _ _=>none
  | kI+1=>ref11_PutGor.l1b s0 i1 i2 k (ref11_PutGor.l1 s0 i1 i2 k kI)
def ref11_PutGor.m (k:Nat) (s0:HSt) (i1:Int) (i2:Gr):Option (Int×HSt):=ref11_PutGor.l1 s0 i1 i2 k k [wrap64 (i2.id * 2),wrap64 (i2.status * 2),wrap64 (i2.pc * 2)] 0
theorem ref11_PutGor.ok {w0 w:World} {F0:List Nat} {ps:List Piece} {k:Nat} {b0 ab0 sb0 g0 cb0:Nat} {s0:HSt} {i1:Int} {i2:Gr} {r0:Int} {t0:HSt} (hS:St w0 F0 (RHeapP b0 ab0 sb0 g0 cb0 s0::ps) w) (hm:ref11_PutGor.m k s0 i1 i2=some (r0,t0)) :
    Calls Tryz.prog 21 #[nP b0 0,nI i1,.agg #[nI (i2.id),nI (i2.status),nI (i2.pc),nI (i2.a),nI (i2.b),nI (i2.c),nI (i2.d),nI (i2.e),nI (i2.f),nI (i2.sudogs)]] w fun e w'=>e=.returned (.int .i64 r0)∧St w0 F0 (RHeapP b0 ab0 sb0 g0 cb0 t0::ps) w':=by
 refine ev_enterL 39 [nP b0 0,nI i1,.agg #[nI (i2.id),nI (i2.status),nI (i2.pc),nI (i2.a),nI (i2.b),nI (i2.c),nI (i2.d),nI (i2.e),nI (i2.f),nI (i2.sudogs)]] Tryz.func21 rfl rfl (by simp) ?_
 intro a hF
 have hF0:Fr 39 a [(0,nP b0 0),(1,nI i1),(2,.agg #[nI (i2.id),nI (i2.status),nI (i2.pc),nI (i2.a),nI (i2.b),nI (i2.c),nI (i2.d),nI (i2.e),nI (i2.f),nI (i2.sudogs)])]:=hF; clear hF
 unfold ref11_PutGor.m at hm
 refine wp_seq (wp_region_lit ?_)
 refine ev_runs 1 hF0 (l':=[(5,nB w),(0,nP b0 0),(1,nI i1),(2,.agg #[nI (i2.id),nI (i2.status),nI (i2.pc),nI (i2.a),nI (i2.b),nI (i2.c),nI (i2.d),nI (i2.e),nI (i2.f),nI (i2.sudogs)])]) (w':=w.alloc (.cells #[nI (i2.id),nI (i2.status),nI (i2.pc),nI (i2.a),nI (i2.b),nI (i2.c),nI (i2.d),nI (i2.e),nI (i2.f),nI (i2.sudogs)] 28)) (by kernel_rfl) ?_
 intro a2 hF1; clear hF0
 have hS4:St w0 F0 (BlkP (w.heap.size) 28 #[nI (i2.id),nI (i2.status),nI (i2.pc),nI (i2.a),nI (i2.b),nI (i2.c),nI (i2.d),nI (i2.e),nI (i2.f),nI (i2.sudogs)]::RHeapP b0 ab0 sb0 g0 cb0 s0::ps) (w.alloc (.cells #[nI (i2.id),nI (i2.status),nI (i2.pc),nI (i2.a),nI (i2.b),nI (i2.c),nI (i2.d),nI (i2.e),nI (i2.f),nI (i2.sudogs)] 28)):=St.new hS #[nI (i2.id),nI (i2.status),nI (i2.pc),nI (i2.a),nI (i2.b),nI (i2.c),nI (i2.d),nI (i2.e),nI (i2.f),nI (i2.sudogs)] 28
 refine ev_runK 1 hF1 [0,1,5] (l':=[(5,nB w),(0,nP b0 0),(1,nI i1)]) (w':=w.alloc (.cells #[nI (i2.id),nI (i2.status),nI (i2.pc),nI (i2.a),nI (i2.b),nI (i2.c),nI (i2.d),nI (i2.e),nI (i2.f),nI (i2.sudogs)] 28)) (by kernel_rfl) ?_
 intro a6 hF5; clear hF1
 refine wpList_nil (thenN (wp_seq ?_))
 have hS7:=hS4.drew; clear hS4
 refine any_start (fun wS=>∃ qs,St w0 F0 (BlkP (w.heap.size) 28 #[nI (i2.id),nI (i2.status),nI (i2.pc),nI (i2.a),nI (i2.b),nI (i2.c),nI (i2.d),nI (i2.e),nI (i2.f),nI (i2.sudogs)]::qs) wS) 11 #[false,false,false,false,false,false,false,false,false,false,false] (by kernel_rfl) (by kernel_rfl) (by kernel_rfl) ?_
 refine any_many 6 [(0,some (nB w)),(1,some (nI (i2.id))),(3,some (nP (w.heap.size) 1)),(4,some (nI (i2.status))),(6,some (nP (w.heap.size) 2)),(7,some (nI (i2.pc)))] [0,1,5,7,10,11,13,14,16,17,18] #[true,true,false,true,true,false,true,true,false,false,false] (by rfl) hF5 (by kernel_rfl) (by kernel_rfl) (by exact ⟨fun wS hw=>by kernel_rfl,fun wS hw=>hw.elim fun qs hw=>run_loadV rfl rfl (run_loadS rfl rfl (hw.cell 0 rfl 0 rfl)),fun wS hw=>by kernel_rfl,fun wS hw=>hw.elim fun qs hw=>run_loadV rfl rfl (run_loadS rfl rfl (hw.cell 0 rfl 1 rfl)),fun wS hw=>by kernel_rfl,fun wS hw=>hw.elim fun qs hw=>run_loadV rfl rfl (run_loadS rfl rfl (hw.cell 0 rfl 2 rfl)),trivial⟩) (fun _ _ _ _ _ h=>h) ⟨_,hS7⟩ (l':=[(16,nI (i2.pc)),(13,nI (i2.status)),(10,nI (i2.id)),(5,nB w),(0,nP b0 0),(1,nI i1)]) (by kernel_rfl) ?_
 intro a9 hF8; clear hF5
 refine any_call 2 #[true,true,true,true,true,false,true,true,false,false,false] 109 #[nI (i2.id)] hF8 rfl (by kernel_rfl) rfl rfl (by kernel_rfl) rfl (by kernel_rfl) (fun w=>by kernel_rfl) (by kernel_rfl) ?_
 refine (p_rInt hS7).mono ?_
 rintro _ w10 ⟨rfl,hS12⟩; clear hS7
 refine ⟨⟨_,hS12⟩,?_⟩
 intro a11 hF13; clear hF8
 refine any_call 5 #[true,true,true,true,true,true,true,true,false,false,false] 109 #[nI (i2.status)] hF13 rfl (by kernel_rfl) rfl rfl (by kernel_rfl) rfl (by kernel_rfl) (fun w=>by kernel_rfl) (by kernel_rfl) ?_
 refine (p_rInt hS12).mono ?_
 rintro _ w14 ⟨rfl,hS16⟩; clear hS12
 refine ⟨⟨_,hS16⟩,?_⟩
 intro a15 hF17; clear hF13
 refine any_call 8 #[true,true,true,true,true,true,true,true,true,false,false] 109 #[nI (i2.pc)] hF17 rfl (by kernel_rfl) rfl rfl (by kernel_rfl) rfl (by kernel_rfl) (fun w=>by kernel_rfl) (by kernel_rfl) ?_
 refine (p_rInt hS16).mono ?_
 rintro _ w18 ⟨rfl,hS20⟩; clear hS16
 refine ⟨⟨_,hS20⟩,?_⟩
 intro a19 hF21; clear hF17
 refine any_one 9 (by kernel_rfl) ?_
 have hS22:St w0 F0 (RowP (.slice (some ⟨w18.heap.size,0,none⟩) 3 3) [wrap64 (i2.id * 2),wrap64 (i2.status * 2),wrap64 (i2.pc * 2)]::BlkP (w.heap.size) 28 #[nI (i2.id),nI (i2.status),nI (i2.pc),nI (i2.a),nI (i2.b),nI (i2.c),nI (i2.d),nI (i2.e),nI (i2.f),nI (i2.sudogs)]::RHeapP b0 ab0 sb0 g0 cb0 s0::ps) (w18.alloc (.cells #[nI (wrap64 (i2.id * 2)),nI (wrap64 (i2.status * 2)),nI (wrap64 (i2.pc * 2))] 3)):=St.lit hS20 [wrap64 (i2.id * 2),wrap64 (i2.status * 2),wrap64 (i2.pc * 2)] (by unfold maxLen; simp)
 clear hS20
 refine op_step 9 #[true,true,true,true,true,true,true,true,true,true,false] (.slice (some ⟨w18.heap.size,0,none⟩) 3 3) (w18.alloc (.cells #[nI (wrap64 (i2.id * 2)),nI (wrap64 (i2.status * 2)),nI (wrap64 (i2.pc * 2))] 3)) hF21 rfl (by kernel_rfl) rfl (by kernel_rfl) (by kernel_rfl) (l':=[(18,.slice (some ⟨w18.heap.size,0,none⟩) 3 3),(17,nI (wrap64 (i2.pc * 2))),(14,nI (wrap64 (i2.status * 2))),(11,nI (wrap64 (i2.id * 2))),(16,nI (i2.pc)),(13,nI (i2.status)),(10,nI (i2.id)),(5,nB w),(0,nP b0 0),(1,nI i1)]) (by kernel_rfl) ⟨_,hS22.pick1⟩ (by kernel_rfl) ?_
 intro a24 hF23; clear hF21
 refine any_many 1 [(10,some (.slice (some ⟨w18.heap.size,0,none⟩) 3 3))] [0,1,5,7] #[true,true,true,true,true,true,true,true,true,true,true] (by rfl) hF23 (by kernel_rfl) (by kernel_rfl) (by exact ⟨fun wS hw=>by kernel_rfl,trivial⟩) (fun _ _ _ _ _ h=>h) ⟨_,hS22.pick1⟩ (l':=[(7,.slice (some ⟨w18.heap.size,0,none⟩) 3 3),(5,nB w),(0,nP b0 0),(1,nI i1)]) (by kernel_rfl) ?_
 intro a26 hF25; clear hF23
 refine any_done (by kernel_rfl) ?_
 refine thenN (wp_seq (wp_seq (wp_region_lit ?_)))
 refine ev_runs 1 hF25 (l':=[(8,nI 0),(7,.slice (some ⟨w18.heap.size,0,none⟩) 3 3),(5,nB w),(0,nP b0 0),(1,nI i1)]) (w':=w18.alloc (.cells #[nI (wrap64 (i2.id * 2)),nI (wrap64 (i2.status * 2)),nI (wrap64 (i2.pc * 2))] 3)) (by kernel_rfl) ?_
 intro a28 hF27; clear hF25
 refine wpList_nil (thenN ?_)
 refine wp_block ?_
 refine wp_loop_ghost (fun kI aI wI=>∃ (v30:Value) (L29:List Int) (x31:Int),Fr 39 aI [(8,nI x31),(7,v30),(5,nB w),(0,nP b0 0),(1,nI i1)]∧St w0 F0 (RowP (v30) L29::BlkP (w.heap.size) 28 #[nI (i2.id),nI (i2.status),nI (i2.pc),nI (i2.a),nI (i2.b),nI (i2.c),nI (i2.d),nI (i2.e),nI (i2.f),nI (i2.sudogs)]::RHeapP b0 ab0 sb0 g0 cb0 s0::ps) wI∧ref11_PutGor.l1 s0 i1 i2 k kI L29 x31=some (r0,t0)) k ⟨.slice (some ⟨w18.heap.size,0,none⟩) 3 3,[wrap64 (i2.id * 2),wrap64 (i2.status * 2),wrap64 (i2.pc * 2)],0,hF27,hS22,hm⟩ ?_
 rintro k32 a33 w34 ⟨v30,L29,x31,hF35,hS36,hm37⟩
 clear hF27 hS22 hm
 rcases k32 with _ | k32
 · cases hm37
 have hm38:ref11_PutGor.l1b s0 i1 i2 k (ref11_PutGor.l1 s0 i1 i2 k k32) L29 x31=some (r0,t0):=hm37
 clear hm37
 unfold ref11_PutGor.l1b at hm38
 obtain ⟨hl42,p39,c40,rfl,hp41⟩:=St.shape hS36 0 rfl
 refine wp_seq (wp_seq (wp_region_lit ?_))
 refine ev_runK 2 hF35 [0,1,5,7,8,20] (l':=[(20,.bool (decide (x31<6))),(8,nI x31),(7,.slice p39 L29.length c40),(5,nB w),(0,nP b0 0),(1,nI i1)]) (w':=w34) (by kernel_rfl) ?_
 intro a44 hF43; clear hF35
 refine wpList_nil (thenN ?_)
 cases hc45:(decide (x31<6))
 case true =>
  rw [hc45] at hF43
  have hm46:=ifYes hc45 hm38; clear hm38
  refine ev_condT hF43 rfl rfl ?_
  refine wp_skip ?_
  have hF47:=hF43.keep [0,1,5,7,8]
  clear hF43
  refine thenN (wp_seq ?_)
  refine wp_block ?_
  refine wp_region_lit ?_
  refine ev_runs 3 hF47 (l':=[(25,nP (w.heap.size) 3),(24,nI x31),(23,.slice p39 L29.length c40),(8,nI x31),(7,.slice p39 L29.length c40),(5,nB w),(0,nP b0 0),(1,nI i1)]) (w':=w34) (by kernel_rfl) ?_
  intro a49 hF48; clear hF47
  obtain ⟨hc50,hm51⟩:=ifTE hm46; clear hm46
  refine ev_one (nP (w.heap.size) ((3+x31.toNat))) w34 hF48 (by kernel_rfl) rfl (by kernel_rfl) (run_idxA (sz:=1) (q:=x31) rfl rfl rfl rfl rfl (inR_spec hc50).1 (inR_spec hc50).2 (by rw [Nat.mul_one]) _) (l':=[(26,nP (w.heap.size) ((3+x31.toNat))),(25,nP (w.heap.size) 3),(24,nI x31),(23,.slice p39 L29.length c40),(8,nI x31),(7,.slice p39 L29.length c40),(5,nB w),(0,nP b0 0),(1,nI i1)]) (by kernel_rfl) ?_
  intro a53 hF52; clear hF48
  refine ev_one (nI (atI [i2.a,i2.b,i2.c,i2.d,i2.e,i2.f] x31)) w34 hF52 (by kernel_rfl) rfl (by kernel_rfl) (run_load1 rfl rfl rfl (St.arrAt hS36 1 rfl 3 [i2.a,i2.b,i2.c,i2.d,i2.e,i2.f] rfl hc50)) (l':=[(27,nI (atI [i2.a,i2.b,i2.c,i2.d,i2.e,i2.f] x31)),(26,nP (w.heap.size) ((3+x31.toNat))),(25,nP (w.heap.size) 3),(24,nI x31),(23,.slice p39 L29.length c40),(8,nI x31),(7,.slice p39 L29.length c40),(5,nB w),(0,nP b0 0),(1,nI i1)]) (by kernel_rfl) ?_
  intro a55 hF54; clear hF52
  refine ev_runs 1 hF54 (l':=[(28,.slice (some ⟨w34.heap.size,0,none⟩) 1 1),(27,nI (atI [i2.a,i2.b,i2.c,i2.d,i2.e,i2.f] x31)),(26,nP (w.heap.size) ((3+x31.toNat))),(25,nP (w.heap.size) 3),(24,nI x31),(23,.slice p39 L29.length c40),(8,nI x31),(7,.slice p39 L29.length c40),(5,nB w),(0,nP b0 0),(1,nI i1)]) (w':=w34.alloc (.cells #[nI (atI [i2.a,i2.b,i2.c,i2.d,i2.e,i2.f] x31)] 3)) (by kernel_rfl) ?_
  intro a57 hF56; clear hF54
  obtain ⟨L58,hx59,hm60⟩:=bind1E hm51; clear hm51
  refine ev_push 29 (.tmp 23) (.tmp 28) hF56 rfl rfl rfl rfl rfl rfl rfl rfl hS36 hx59 ?_
  intro g61 c62 w63 a64 hS65 hF66; clear hF56 hS36
  refine ev_runK 1 hF66 [0,1,5,7,8] (l':=[(7,nS g61 L58 c62),(8,nI x31),(5,nB w),(0,nP b0 0),(1,nI i1)]) (w':=w63) (by kernel_rfl) ?_
  intro a68 hF67; clear hF66
  refine wpList_nil ?_
  refine blockN ?_
  refine thenN (wp_region_lit ?_)
  refine ev_runK 3 hF67 [0,1,5,7,8] (l':=[(8,nI (IntKind.i64.wrap (x31+1))),(7,nS g61 L58 c62),(5,nB w),(0,nP b0 0),(1,nI i1)]) (w':=w63) (by kernel_rfl) ?_
  intro a70 hF69; clear hF67
  refine wpList_nil ?_
  exact thenN ⟨k32,Nat.lt_succ_self _,nS g61 L58 c62,L58,IntKind.i64.wrap (x31+1),hF69,hS65,hm60⟩
 rw [hc45] at hF43
 have hm71:=ifNot hc45 hm38; clear hm38
 refine ev_condF hF43 rfl rfl ?_
 refine wp_exit ?_
 refine thenE ?_
 refine thenE ?_
 refine blockE ?_
 refine thenN (wp_seq (wp_region_lit ?_))
 refine ev_runs 4 hF43 (l':=[(33,nP (w.heap.size) 9),(32,.slice p39 L29.length c40),(31,nI i1),(30,nP b0 0),(20,.bool false),(8,nI x31),(7,.slice p39 L29.length c40),(5,nB w),(0,nP b0 0),(1,nI i1)]) (w':=w34) (by kernel_rfl) ?_
 intro a73 hF72; clear hF43
 refine ev_one (nI (i2.sudogs)) w34 hF72 (by kernel_rfl) rfl (by kernel_rfl) (run_loadV rfl rfl (run_loadS rfl rfl (hS36.cell 1 rfl 9 rfl))) (l':=[(34,nI (i2.sudogs)),(33,nP (w.heap.size) 9),(32,.slice p39 L29.length c40),(31,nI i1),(30,nP b0 0),(20,.bool false),(8,nI x31),(7,.slice p39 L29.length c40),(5,nB w),(0,nP b0 0),(1,nI i1)]) (by kernel_rfl) ?_
 intro a75 hF74; clear hF72
 refine ev_call 110 #[nI (i2.sudogs)] hF74 rfl rfl (by kernel_rfl) rfl (by kernel_rfl) (fun w=>by kernel_rfl) ?_
 obtain ⟨x76,hx77,hm78⟩:=bind1E hm71; clear hm71
 refine (ref11_ptr.ok hS36 hx77).mono ?_
 rintro _ w79 ⟨rfl,hS81⟩ a80 hF82; clear hF74 hS36
 refine ev_runs 1 hF82 (l':=[(36,.slice (some ⟨w79.heap.size,0,none⟩) 1 1),(35,nI x76),(34,nI (i2.sudogs)),(33,nP (w.heap.size) 9),(32,.slice p39 L29.length c40),(31,nI i1),(30,nP b0 0),(20,.bool false),(8,nI x31),(7,.slice p39 L29.length c40),(5,nB w),(0,nP b0 0),(1,nI i1)]) (w':=w79.alloc (.cells #[nI x76] 3)) (by kernel_rfl) ?_
 intro a84 hF83; clear hF82
 obtain ⟨L85,hx86,hm87⟩:=bind1E hm78; clear hm78
 refine ev_push 37 (.tmp 32) (.tmp 36) hF83 rfl rfl rfl rfl rfl rfl rfl rfl hS81 hx86 ?_
 intro g88 c89 w90 a91 hS92 hF93; clear hF83 hS81
 have hS94:=hS92.pick2
 clear hS92
 refine ev_call 108 #[nP b0 0,nI i1,nI 4,nS g88 L85 c89] hF93 rfl rfl (by kernel_rfl) rfl (by kernel_rfl) (fun w=>by kernel_rfl) ?_
 obtain ⟨x95,s96,hx97,hm98⟩:=bind2E hm87; clear hm87
 refine (ref11_put.ok hS94 hx97).mono ?_
 rintro _ w99 ⟨rfl,hS101⟩ a100 hF102; clear hF93 hS94
 refine ev_runK 1 hF102 [6] (l':=[(6,nI x95)]) (w':=w99) (by kernel_rfl) ?_
 intro a104 hF103; clear hF102
 refine wpList_nil ?_
 have hS105:=hS101.pick1.drop.pick1.drop
 clear hS101
 refine thenN ?_
 refine wp_ret ?_
 simp only [Option.some.injEq,Prod.mk.injEq] at hm98
 obtain ⟨rfl,rfl⟩:=hm98
 refine ev_ret hF103 [6] (nI x95) rfl rfl rfl ?_
 exact ⟨rfl,hS105⟩
end Go.Proofs.YtffnjpapggidlaaGreat
namespace Go.Proofs.YtffnjpapggidlaaGreat
open Go.RowKit
set_option linter.unusedVariables false
def ref11_Sudog.m (k:Nat) (s0:HSt) (i1:Int):Option (Su×Int×HSt):=bind3 (ref11_words.m k s0 i1 3) fun L10 x11 s12=>(if (x11 != 0) then some ((⟨0,0,0,0,0,0,0⟩:Su),x11,s12) else (if (inR (0:Int) L10.length) then (if (inR (1:Int) L10.length) then (if (inR (2:Int) L10.length) then (if (inR (3:Int) L10.length) then (if (inR (4:Int) L10.length) then (if (inR (5:Int) L10.length) then (if (inR (6:Int) L10.length) then bind1 (ref11_place.m k (atI L10 (0:Int))) fun x67=>bind1 (ref11_place.m k (atI L10 (1:Int))) fun x74=>bind1 (ref11_place.m k (atI L10 (3:Int))) fun x81=>bind1 (ref11_number.m k (atI L10 (4:Int))) fun x88=>bind1 (ref11_number.m k (atI L10 (5:Int))) fun x95=>bind1 (ref11_place.m k (atI L10 (6:Int))) fun x102=>some ((⟨x67,x74,atI L10 (2:Int),x81,x88,x95,x102⟩:Su),x11,s12) else none) else none) else none) else none) else none) else none) else none))
set_option maxRecDepth 100000 in
set_option maxHeartbeats 1500000 in
theorem ref11_Sudog.ok {w0 w:World} {F0:List Nat} {ps:List Piece} {k:Nat} {b0 ab0 sb0 g0 cb0:Nat} {s0:HSt} {i1:Int} {r0:Su} {r1:Int} {t0:HSt} (hS:St w0 F0 (RHeapP b0 ab0 sb0 g0 cb0 s0::ps) w) (hm:ref11_Sudog.m k s0 i1=some (r0,r1,t0)) :
    Calls Tryz.prog 28 #[nP b0 0,nI i1] w fun e w'=>e=.returned (.tuple #[.agg #[nI (r0.gor),nI (r0.chan),nI (r0.value),nI (r0.next),nI (r0.to),nI (r0.reg),nI (r0.more)],.int .i64 r1])∧St w0 F0 (RHeapP b0 ab0 sb0 g0 cb0 t0::ps) w':=by
 refine ev_enterL 47 [nP b0 0,nI i1] Tryz.func28 rfl rfl (by simp) ?_
 intro a hF
 have hF0:Fr 47 a [(0,nP b0 0),(1,nI i1)]:=hF; clear hF
 unfold ref11_Sudog.m at hm
 refine wp_seq (wp_region_lit ?_)
 refine ev_runs 1 hF0 (l':=[(4,nB w),(0,nP b0 0),(1,nI i1)]) (w':=w.alloc (.cells #[nI 0,nI 0,nI 0,nI 0,nI 0,nI 0,nI 0] 25)) (by kernel_rfl) ?_
 intro a2 hF1; clear hF0
 have hS4:St w0 F0 (BlkP (w.heap.size) 25 #[nI 0,nI 0,nI 0,nI 0,nI 0,nI 0,nI 0]::RHeapP b0 ab0 sb0 g0 cb0 s0::ps) (w.alloc (.cells #[nI 0,nI 0,nI 0,nI 0,nI 0,nI 0,nI 0] 25)):=St.new hS #[nI 0,nI 0,nI 0,nI 0,nI 0,nI 0,nI 0] 25
 refine ev_runK 1 hF1 [0,1,4] (l':=[(4,nB w),(0,nP b0 0),(1,nI i1)]) (w':=w.alloc (.cells #[nI 0,nI 0,nI 0,nI 0,nI 0,nI 0,nI 0] 25)) (by kernel_rfl) ?_
 intro a6 hF5; clear hF1
 refine wpList_nil (thenN (wp_seq (wp_region_lit ?_)))
 refine ev_runs 2 hF5 (l':=[(10,nI i1),(9,nP b0 0),(4,nB w),(0,nP b0 0),(1,nI i1)]) (w':=w.alloc (.cells #[nI 0,nI 0,nI 0,nI 0,nI 0,nI 0,nI 0] 25)) (by kernel_rfl) ?_
 intro a8 hF7; clear hF5
 have hS9:=hS4.pick1
 clear hS4
 refine ev_call 120 #[nP b0 0,nI i1,nI 3] hF7 rfl rfl (by kernel_rfl) rfl (by kernel_rfl) (fun w=>by kernel_rfl) ?_
 obtain ⟨L10,x11,s12,hx13,hm14⟩:=bind3E hm; clear hm
 refine (ref11_words.ok hS9 hx13).mono ?_
 rintro _ w15 ⟨z19,rfl,hS17⟩ a16 hF18; clear hF7 hS9
 obtain ⟨hl24,p21,c22,rfl,hp23⟩:=St.shape hS17 1 rfl
 refine ev_runK 5 hF18 [4,6,7] (l':=[(7,nI x11),(6,.slice p21 L10.length c22),(4,nB w)]) (w':=w15) (by kernel_rfl) ?_
 intro a26 hF25; clear hF18
 refine wpList_nil (thenN (wp_seq (wp_seq (wp_region_lit ?_))))
 refine ev_runK 2 hF25 [4,6,7,15] (l':=[(15,.bool (x11 != 0)),(7,nI x11),(6,.slice p21 L10.length c22),(4,nB w)]) (w':=w15) (by kernel_rfl) ?_
 intro a28 hF27; clear hF25
 refine wpList_nil (thenN ?_)
 cases hc29:(x11 != 0)
 case true =>
  rw [hc29] at hF27
  have hm30:=ifYes hc29 hm14; clear hm14
  refine ev_condT hF27 rfl rfl ?_
  refine wp_seq (wp_region_lit ?_)
  refine ev_runs 2 hF27 (l':=[(17,nI x11),(16,.agg #[nI 0,nI 0,nI 0,nI 0,nI 0,nI 0,nI 0]),(15,.bool true),(7,nI x11),(6,.slice p21 L10.length c22),(4,nB w)]) (w':=w15) (by kernel_rfl) ?_
  intro a32 hF31; clear hF27
  have hS33:=hS17.pick2
  clear hS17
  refine ev_store (.agg #[nI 0,nI 0,nI 0,nI 0,nI 0,nI 0,nI 0]) #[nI 0,nI 0,nI 0,nI 0,nI 0,nI 0,nI 0] hF31 (by kernel_rfl) rfl rfl rfl rfl (by kernel_rfl) hS33 (by kernel_rfl) (by kernel_rfl) (by kernel_rfl) (l':=[(17,nI x11),(16,.agg #[nI 0,nI 0,nI 0,nI 0,nI 0,nI 0,nI 0]),(15,.bool true),(7,nI x11),(6,.slice p21 L10.length c22),(4,nB w)]) (by kernel_rfl) ?_
  intro w34 a35 hS36 hF37; clear hF31 hS33
  refine ev_runK 1 hF37 [4,5] (l':=[(5,nI x11),(4,nB w)]) (w':=w34) (by kernel_rfl) ?_
  intro a39 hF38; clear hF37
  refine wpList_nil ?_
  have hS40:=hS36.pick2.drop
  clear hS36
  refine thenN ?_
  refine wp_ret ?_
  refine thenR ?_
  have hS41:=hS40.pick1
  clear hS40
  simp only [Option.some.injEq,Prod.mk.injEq] at hm30
  obtain ⟨rfl,rfl,rfl⟩:=hm30
  refine ev_retC hF38 _ [.agg #[nI 0,nI 0,nI 0,nI 0,nI 0,nI 0,nI 0],nI x11] (.tuple #[.agg #[nI 0,nI 0,nI 0,nI 0,nI 0,nI 0,nI 0],nI x11]) rfl ⟨⟨rfl,_,rfl,(run_loadA (cs:=[nI 0,nI 0,nI 0,nI 0,nI 0,nI 0,nI 0]) rfl rfl (by kernel_rfl) (blk_cells hS41 1 rfl rfl))⟩,⟨rfl,rfl⟩,trivial⟩ rfl ?_
  have hS45:=hS41.pick1.drop
  clear hS41
  exact ⟨rfl,hS45⟩
 rw [hc29] at hF27
 have hm46:=ifNot hc29 hm14; clear hm14
 refine ev_condF hF27 rfl rfl ?_
 refine wp_skip ?_
 have hF47:=hF27.keep [4,6,7]
 clear hF27
 refine thenN (wp_seq ?_)
 obtain ⟨hc48,hm49⟩:=ifTE hm46; clear hm46
 obtain ⟨g50,rfl⟩:=hp23.resolve_left (by have:=inR_spec hc48; omega)
 obtain ⟨hc51,hm52⟩:=ifTE hm49; clear hm49
 obtain ⟨hc53,hm54⟩:=ifTE hm52; clear hm52
 obtain ⟨hc55,hm56⟩:=ifTE hm54; clear hm54
 obtain ⟨hc57,hm58⟩:=ifTE hm56; clear hm56
 obtain ⟨hc59,hm60⟩:=ifTE hm58; clear hm58
 obtain ⟨hc61,hm62⟩:=ifTE hm60; clear hm60
 have hS63:=hS17.pick1
 clear hS17
 have hS64:=hS63.drew; clear hS63
 refine any_start (fun wS=>∃ qs,St w0 F0 (RowP (nS g50 L10 c22) L10::qs) wS) 31 #[false,false,false,false,false,false,false,false,false,false,false,false,false,false,false,false,false,false,false,false,false,false,false,false,false,false,false,false,false,false,false] (by kernel_rfl) (by kernel_rfl) (by kernel_rfl) ?_
 refine any_many 22 [(0,some (nS g50 L10 c22)),(1,some (nP g50 ((0:Int).toNat))),(2,some (nI (atI L10 (0:Int)))),(4,some (nS g50 L10 c22)),(5,some (nP g50 ((1:Int).toNat))),(6,some (nI (atI L10 (1:Int)))),(8,some (nS g50 L10 c22)),(9,some (nP g50 ((2:Int).toNat))),(10,some (nI (atI L10 (2:Int)))),(11,some (nS g50 L10 c22)),(12,some (nP g50 ((3:Int).toNat))),(13,some (nI (atI L10 (3:Int)))),(15,some (nS g50 L10 c22)),(16,some (nP g50 ((4:Int).toNat))),(17,some (nI (atI L10 (4:Int)))),(19,some (nS g50 L10 c22)),(20,some (nP g50 ((5:Int).toNat))),(21,some (nI (atI L10 (5:Int)))),(23,some (nS g50 L10 c22)),(24,some (nP g50 ((6:Int).toNat))),(25,some (nI (atI L10 (6:Int)))),(28,some (nI x11))] [4,5,20,21,24,25,28,31,32,35,36,39,40,43,44,45,46] #[true,true,true,false,true,true,true,false,true,true,true,true,true,true,false,true,true,true,false,true,true,true,false,true,true,true,false,false,true,false,false] (by rfl) hF47 (by kernel_rfl) (by kernel_rfl) (by exact ⟨fun wS hw=>by kernel_rfl,fun wS hw=>run_idx rfl rfl rfl rfl rfl (inR_spec hc48).1 (inR_spec hc48).2 _,fun wS hw=>run_load1 rfl rfl rfl (hw.elim fun qs hw=>hw.atI 0 rfl hc48),fun wS hw=>by kernel_rfl,fun wS hw=>run_idx rfl rfl rfl rfl rfl (inR_spec hc51).1 (inR_spec hc51).2 _,fun wS hw=>run_load1 rfl rfl rfl (hw.elim fun qs hw=>hw.atI 0 rfl hc51),fun wS hw=>by kernel_rfl,fun wS hw=>run_idx rfl rfl rfl rfl rfl (inR_spec hc53).1 (inR_spec hc53).2 _,fun wS hw=>run_load1 rfl rfl rfl (hw.elim fun qs hw=>hw.atI 0 rfl hc53),fun wS hw=>by kernel_rfl,fun wS hw=>run_idx rfl rfl rfl rfl rfl (inR_spec hc55).1 (inR_spec hc55).2 _,fun wS hw=>run_load1 rfl rfl rfl (hw.elim fun qs hw=>hw.atI 0 rfl hc55),fun wS hw=>by kernel_rfl,fun wS hw=>run_idx rfl rfl rfl rfl rfl (inR_spec hc57).1 (inR_spec hc57).2 _,fun wS hw=>run_load1 rfl rfl rfl (hw.elim fun qs hw=>hw.atI 0 rfl hc57),fun wS hw=>by kernel_rfl,fun wS hw=>run_idx rfl rfl rfl rfl rfl (inR_spec hc59).1 (inR_spec hc59).2 _,fun wS hw=>run_load1 rfl rfl rfl (hw.elim fun qs hw=>hw.atI 0 rfl hc59),fun wS hw=>by kernel_rfl,fun wS hw=>run_idx rfl rfl rfl rfl rfl (inR_spec hc61).1 (inR_spec hc61).2 _,fun wS hw=>run_load1 rfl rfl rfl (hw.elim fun qs hw=>hw.atI 0 rfl hc61),fun wS hw=>by kernel_rfl,trivial⟩) (fun _ _ _ _ _ h=>h) ⟨_,hS64⟩ (l':=[(46,nI x11),(43,nI (atI L10 (6:Int))),(39,nI (atI L10 (5:Int))),(35,nI (atI L10 (4:Int))),(31,nI (atI L10 (3:Int))),(28,nI (atI L10 (2:Int))),(24,nI (atI L10 (1:Int))),(20,nI (atI L10 (0:Int))),(4,nB w)]) (by kernel_rfl) ?_
 intro a66 hF65; clear hF47
 refine any_call 3 #[true,true,true,true,true,true,true,false,true,true,true,true,true,true,false,true,true,true,false,true,true,true,false,true,true,true,false,false,true,false,false] 122 #[nI (atI L10 (0:Int))] hF65 rfl (by kernel_rfl) rfl rfl (by kernel_rfl) rfl (by kernel_rfl) (fun w=>by kernel_rfl) (by kernel_rfl) ?_
 obtain ⟨x67,hx68,hm69⟩:=bind1E hm62; clear hm62
 refine (ref11_place.ok hS64 hx68).mono ?_
 rintro _ w70 ⟨rfl,hS72⟩; clear hS64
 refine ⟨⟨_,hS72⟩,?_⟩
 intro a71 hF73; clear hF65
 refine any_call 7 #[true,true,true,true,true,true,true,true,true,true,true,true,true,true,false,true,true,true,false,true,true,true,false,true,true,true,false,false,true,false,false] 122 #[nI (atI L10 (1:Int))] hF73 rfl (by kernel_rfl) rfl rfl (by kernel_rfl) rfl (by kernel_rfl) (fun w=>by kernel_rfl) (by kernel_rfl) ?_
 obtain ⟨x74,hx75,hm76⟩:=bind1E hm69; clear hm69
 refine (ref11_place.ok hS72 hx75).mono ?_
 rintro _ w77 ⟨rfl,hS79⟩; clear hS72
 refine ⟨⟨_,hS79⟩,?_⟩
 intro a78 hF80; clear hF73
 refine any_call 14 #[true,true,true,true,true,true,true,true,true,true,true,true,true,true,true,true,true,true,false,true,true,true,false,true,true,true,false,false,true,false,false] 122 #[nI (atI L10 (3:Int))] hF80 rfl (by kernel_rfl) rfl rfl (by kernel_rfl) rfl (by kernel_rfl) (fun w=>by kernel_rfl) (by kernel_rfl) ?_
 obtain ⟨x81,hx82,hm83⟩:=bind1E hm76; clear hm76
 refine (ref11_place.ok hS79 hx82).mono ?_
 rintro _ w84 ⟨rfl,hS86⟩; clear hS79
 refine ⟨⟨_,hS86⟩,?_⟩
 intro a85 hF87; clear hF80
 refine any_call 18 #[true,true,true,true,true,true,true,true,true,true,true,true,true,true,true,true,true,true,true,true,true,true,false,true,true,true,false,false,true,false,false] 121 #[nI (atI L10 (4:Int))] hF87 rfl (by kernel_rfl) rfl rfl (by kernel_rfl) rfl (by kernel_rfl) (fun w=>by kernel_rfl) (by kernel_rfl) ?_
 obtain ⟨x88,hx89,hm90⟩:=bind1E hm83; clear hm83
 refine (ref11_number.ok hS86 hx89).mono ?_
 rintro _ w91 ⟨rfl,hS93⟩; clear hS86
 refine ⟨⟨_,hS93⟩,?_⟩
 intro a92 hF94; clear hF87
 refine any_call 22 #[true,true,true,true,true,true,true,true,true,true,true,true,true,true,true,true,true,true,true,true,true,true,true,true,true,true,false,false,true,false,false] 121 #[nI (atI L10 (5:Int))] hF94 rfl (by kernel_rfl) rfl rfl (by kernel_rfl) rfl (by kernel_rfl) (fun w=>by kernel_rfl) (by kernel_rfl) ?_
 obtain ⟨x95,hx96,hm97⟩:=bind1E hm90; clear hm90
 refine (ref11_number.ok hS93 hx96).mono ?_
 rintro _ w98 ⟨rfl,hS100⟩; clear hS93
 refine ⟨⟨_,hS100⟩,?_⟩
 intro a99 hF101; clear hF94
 refine any_call 26 #[true,true,true,true,true,true,true,true,true,true,true,true,true,true,true,true,true,true,true,true,true,true,true,true,true,true,true,false,true,false,false] 122 #[nI (atI L10 (6:Int))] hF101 rfl (by kernel_rfl) rfl rfl (by kernel_rfl) rfl (by kernel_rfl) (fun w=>by kernel_rfl) (by kernel_rfl) ?_
 obtain ⟨x102,hx103,hm104⟩:=bind1E hm97; clear hm97
 refine (ref11_place.ok hS100 hx103).mono ?_
 rintro _ w105 ⟨rfl,hS107⟩; clear hS100
 refine ⟨⟨_,hS107⟩,?_⟩
 intro a106 hF108; clear hF101
 refine any_many 1 [(27,some (.agg #[nI x67,nI x74,nI (atI L10 (2:Int)),nI x81,nI x88,nI x95,nI x102]))] [4,5,45,46] #[true,true,true,true,true,true,true,true,true,true,true,true,true,true,true,true,true,true,true,true,true,true,true,true,true,true,true,true,true,false,false] (by rfl) hF108 (by kernel_rfl) (by kernel_rfl) (by exact ⟨fun wS hw=>by kernel_rfl,trivial⟩) (fun _ _ _ _ _ h=>h) ⟨_,hS107⟩ (l':=[(45,.agg #[nI x67,nI x74,nI (atI L10 (2:Int)),nI x81,nI x88,nI x95,nI x102]),(46,nI x11),(4,nB w)]) (by kernel_rfl) ?_
 intro a110 hF109; clear hF108
 refine any_one 29 (by kernel_rfl) ?_
 have hS111:=hS107.pick2
 clear hS107
 refine op_store 29 #[true,true,true,true,true,true,true,true,true,true,true,true,true,true,true,true,true,true,true,true,true,true,true,true,true,true,true,true,true,true,false] (.agg #[nI x67,nI x74,nI (atI L10 (2:Int)),nI x81,nI x88,nI x95,nI x102]) #[nI x67,nI x74,nI (atI L10 (2:Int)),nI x81,nI x88,nI x95,nI x102] hF109 rfl (by kernel_rfl) rfl rfl rfl rfl (by kernel_rfl) hS111 (by kernel_rfl) (by kernel_rfl) (by kernel_rfl) (l':=[(45,.agg #[nI x67,nI x74,nI (atI L10 (2:Int)),nI x81,nI x88,nI x95,nI x102]),(46,nI x11),(4,nB w)]) (by kernel_rfl) (by kernel_rfl) ?_
 intro w112 a113 hS114 hF115; clear hF109 hS111
 refine ⟨⟨_,hS114.pick1⟩,?_⟩
 refine any_many 1 [(30,some (nI x11))] [4,5] #[true,true,true,true,true,true,true,true,true,true,true,true,true,true,true,true,true,true,true,true,true,true,true,true,true,true,true,true,true,true,true] (by rfl) hF115 (by kernel_rfl) (by kernel_rfl) (by exact ⟨fun wS hw=>by kernel_rfl,trivial⟩) (fun _ _ _ _ _ h=>h) ⟨_,hS114.pick1⟩ (l':=[(5,nI x11),(4,nB w)]) (by kernel_rfl) ?_
 intro a117 hF116; clear hF115
 refine any_done (by kernel_rfl) ?_
 have hS118:=hS114.pick1.drop
 clear hS114
 refine thenN ?_
 refine wp_ret ?_
 have hS119:=hS118.pick1
 clear hS118
 simp only [Option.some.injEq,Prod.mk.injEq] at hm104
 obtain ⟨rfl,rfl,rfl⟩:=hm104
 refine ev_retC hF116 _ [.agg #[nI x67,nI x74,nI (atI L10 (2:Int)),nI x81,nI x88,nI x95,nI x102],nI x11] (.tuple #[.agg #[nI x67,nI x74,nI (atI L10 (2:Int)),nI x81,nI x88,nI x95,nI x102],nI x11]) rfl ⟨⟨rfl,_,rfl,(run_loadA (cs:=[nI x67,nI x74,nI (atI L10 (2:Int)),nI x81,nI x88,nI x95,nI x102]) rfl rfl (by kernel_rfl) (blk_cells hS119 1 rfl rfl))⟩,⟨rfl,rfl⟩,trivial⟩ rfl ?_
 have hS123:=hS119.pick1.drop
 clear hS119
 exact ⟨rfl,hS123⟩
def ref11_Chan.m (k:Nat) (s0:HSt) (i1:Int):Option (Ch×Int×HSt):=bind3 (ref11_words.m k s0 i1 1) fun L10 x11 s12=>(if (x11 != 0) then some ((⟨0,0,0,0,0,0,0,0,0⟩:Ch),x11,s12) else (if (inR (0:Int) L10.length) then (if (inR (1:Int) L10.length) then (if (inR (2:Int) L10.length) then (if (inR (3:Int) L10.length) then (if (inR (4:Int) L10.length) then (if (inR (5:Int) L10.length) then (if (inR (6:Int) L10.length) then (if (inR (7:Int) L10.length) then (if (inR (8:Int) L10.length) then bind1 (ref11_number.m k (atI L10 (0:Int))) fun x71=>bind1 (ref11_number.m k (atI L10 (1:Int))) fun x78=>bind1 (ref11_number.m k (atI L10 (2:Int))) fun x85=>bind1 (ref11_number.m k (atI L10 (3:Int))) fun x92=>bind1 (ref11_place.m k (atI L10 (4:Int))) fun x99=>bind1 (ref11_place.m k (atI L10 (5:Int))) fun x106=>bind1 (ref11_place.m k (atI L10 (6:Int))) fun x113=>bind1 (ref11_place.m k (atI L10 (7:Int))) fun x120=>bind1 (ref11_place.m k (atI L10 (8:Int))) fun x127=>some ((⟨x71,x78,x85,x92,x99,x106,x113,x120,x127⟩:Ch),x11,s12) else none) else none) else none) else none) else none) else none) else none) else none) else none))
set_option maxRecDepth 100000 in
set_option maxHeartbeats 1500000 in
theorem ref11_Chan.ok {w0 w:World} {F0:List Nat} {ps:List Piece} {k:Nat} {b0 ab0 sb0 g0 cb0:Nat} {s0:HSt} {i1:Int} {r0:Ch} {r1:Int} {t0:HSt} (hS:St w0 F0 (RHeapP b0 ab0 sb0 g0 cb0 s0::ps) w) (hm:ref11_Chan.m k s0 i1=some (r0,r1,t0)) :
    Calls Tryz.prog 26 #[nP b0 0,nI i1] w fun e w'=>e=.returned (.tuple #[.agg #[nI (r0.cap),nI (r0.closed),nI (r0.count),nI (r0.start),nI (r0.buf),nI (r0.th),nI (r0.tt),nI (r0.sh),nI (r0.st)],.int .i64 r1])∧St w0 F0 (RHeapP b0 ab0 sb0 g0 cb0 t0::ps) w':=by
 refine ev_enterL 56 [nP b0 0,nI i1] Tryz.func26 rfl rfl (by simp) ?_
 intro a hF
 have hF0:Fr 56 a [(0,nP b0 0),(1,nI i1)]:=hF; clear hF
 unfold ref11_Chan.m at hm
 refine wp_seq (wp_region_lit ?_)
 refine ev_runs 1 hF0 (l':=[(4,nB w),(0,nP b0 0),(1,nI i1)]) (w':=w.alloc (.cells #[nI 0,nI 0,nI 0,nI 0,nI 0,nI 0,nI 0,nI 0,nI 0] 23)) (by kernel_rfl) ?_
 intro a2 hF1; clear hF0
 have hS4:St w0 F0 (BlkP (w.heap.size) 23 #[nI 0,nI 0,nI 0,nI 0,nI 0,nI 0,nI 0,nI 0,nI 0]::RHeapP b0 ab0 sb0 g0 cb0 s0::ps) (w.alloc (.cells #[nI 0,nI 0,nI 0,nI 0,nI 0,nI 0,nI 0,nI 0,nI 0] 23)):=St.new hS #[nI 0,nI 0,nI 0,nI 0,nI 0,nI 0,nI 0,nI 0,nI 0] 23
 refine ev_runK 1 hF1 [0,1,4] (l':=[(4,nB w),(0,nP b0 0),(1,nI i1)]) (w':=w.alloc (.cells #[nI 0,nI 0,nI 0,nI 0,nI 0,nI 0,nI 0,nI 0,nI 0] 23)) (by kernel_rfl) ?_
 intro a6 hF5; clear hF1
 refine wpList_nil (thenN (wp_seq (wp_region_lit ?_)))
 refine ev_runs 2 hF5 (l':=[(10,nI i1),(9,nP b0 0),(4,nB w),(0,nP b0 0),(1,nI i1)]) (w':=w.alloc (.cells #[nI 0,nI 0,nI 0,nI 0,nI 0,nI 0,nI 0,nI 0,nI 0] 23)) (by kernel_rfl) ?_
 intro a8 hF7; clear hF5
 have hS9:=hS4.pick1
 clear hS4
 refine ev_call 120 #[nP b0 0,nI i1,nI 1] hF7 rfl rfl (by kernel_rfl) rfl (by kernel_rfl) (fun w=>by kernel_rfl) ?_
 obtain ⟨L10,x11,s12,hx13,hm14⟩:=bind3E hm; clear hm
 refine (ref11_words.ok hS9 hx13).mono ?_
 rintro _ w15 ⟨z19,rfl,hS17⟩ a16 hF18; clear hF7 hS9
 obtain ⟨hl24,p21,c22,rfl,hp23⟩:=St.shape hS17 1 rfl
 refine ev_runK 5 hF18 [4,6,7] (l':=[(7,nI x11),(6,.slice p21 L10.length c22),(4,nB w)]) (w':=w15) (by kernel_rfl) ?_
 intro a26 hF25; clear hF18
 refine wpList_nil (thenN (wp_seq (wp_seq (wp_region_lit ?_))))
 refine ev_runK 2 hF25 [4,6,7,15] (l':=[(15,.bool (x11 != 0)),(7,nI x11),(6,.slice p21 L10.length c22),(4,nB w)]) (w':=w15) (by kernel_rfl) ?_
 intro a28 hF27; clear hF25
 refine wpList_nil (thenN ?_)
 cases hc29:(x11 != 0)
 case true =>
  rw [hc29] at hF27
  have hm30:=ifYes hc29 hm14; clear hm14
  refine ev_condT hF27 rfl rfl ?_
  refine wp_seq (wp_region_lit ?_)
  refine ev_runs 2 hF27 (l':=[(17,nI x11),(16,.agg #[nI 0,nI 0,nI 0,nI 0,nI 0,nI 0,nI 0,nI 0,nI 0]),(15,.bool true),(7,nI x11),(6,.slice p21 L10.length c22),(4,nB w)]) (w':=w15) (by kernel_rfl) ?_
  intro a32 hF31; clear hF27
  have hS33:=hS17.pick2
  clear hS17
  refine ev_store (.agg #[nI 0,nI 0,nI 0,nI 0,nI 0,nI 0,nI 0,nI 0,nI 0]) #[nI 0,nI 0,nI 0,nI 0,nI 0,nI 0,nI 0,nI 0,nI 0] hF31 (by kernel_rfl) rfl rfl rfl rfl (by kernel_rfl) hS33 (by kernel_rfl) (by kernel_rfl) (by kernel_rfl) (l':=[(17,nI x11),(16,.agg #[nI 0,nI 0,nI 0,nI 0,nI 0,nI 0,nI 0,nI 0,nI 0]),(15,.bool true),(7,nI x11),(6,.slice p21 L10.length c22),(4,nB w)]) (by kernel_rfl) ?_
  intro w34 a35 hS36 hF37; clear hF31 hS33
  refine ev_runK 1 hF37 [4,5] (l':=[(5,nI x11),(4,nB w)]) (w':=w34) (by kernel_rfl) ?_
  intro a39 hF38; clear hF37
  refine wpList_nil ?_
  have hS40:=hS36.pick2.drop
  clear hS36
  refine thenN ?_
  refine wp_ret ?_
  refine thenR ?_
  have hS41:=hS40.pick1
  clear hS40
  simp only [Option.some.injEq,Prod.mk.injEq] at hm30
  obtain ⟨rfl,rfl,rfl⟩:=hm30
  refine ev_retC hF38 _ [.agg #[nI 0,nI 0,nI 0,nI 0,nI 0,nI 0,nI 0,nI 0,nI 0],nI x11] (.tuple #[.agg #[nI 0,nI 0,nI 0,nI 0,nI 0,nI 0,nI 0,nI 0,nI 0],nI x11]) rfl ⟨⟨rfl,_,rfl,(run_loadA (cs:=[nI 0,nI 0,nI 0,nI 0,nI 0,nI 0,nI 0,nI 0,nI 0]) rfl rfl (by kernel_rfl) (blk_cells hS41 1 rfl rfl))⟩,⟨rfl,rfl⟩,trivial⟩ rfl ?_
  have hS45:=hS41.pick1.drop
  clear hS41
  exact ⟨rfl,hS45⟩
 rw [hc29] at hF27
 have hm46:=ifNot hc29 hm14; clear hm14
 refine ev_condF hF27 rfl rfl ?_
 refine wp_skip ?_
 have hF47:=hF27.keep [4,6,7]
 clear hF27
 refine thenN (wp_seq ?_)
 obtain ⟨hc48,hm49⟩:=ifTE hm46; clear hm46
 obtain ⟨g50,rfl⟩:=hp23.resolve_left (by have:=inR_spec hc48; omega)
 obtain ⟨hc51,hm52⟩:=ifTE hm49; clear hm49
 obtain ⟨hc53,hm54⟩:=ifTE hm52; clear hm52
 obtain ⟨hc55,hm56⟩:=ifTE hm54; clear hm54
 obtain ⟨hc57,hm58⟩:=ifTE hm56; clear hm56
 obtain ⟨hc59,hm60⟩:=ifTE hm58; clear hm58
 obtain ⟨hc61,hm62⟩:=ifTE hm60; clear hm60
 obtain ⟨hc63,hm64⟩:=ifTE hm62; clear hm62
 obtain ⟨hc65,hm66⟩:=ifTE hm64; clear hm64
 have hS67:=hS17.pick1
 clear hS17
 have hS68:=hS67.drew; clear hS67
 refine any_start (fun wS=>∃ qs,St w0 F0 (RowP (nS g50 L10 c22) L10::qs) wS) 40 #[false,false,false,false,false,false,false,false,false,false,false,false,false,false,false,false,false,false,false,false,false,false,false,false,false,false,false,false,false,false,false,false,false,false,false,false,false,false,false,false] (by kernel_rfl) (by kernel_rfl) (by kernel_rfl) ?_
 refine any_many 28 [(0,some (nS g50 L10 c22)),(1,some (nP g50 ((0:Int).toNat))),(2,some (nI (atI L10 (0:Int)))),(4,some (nS g50 L10 c22)),(5,some (nP g50 ((1:Int).toNat))),(6,some (nI (atI L10 (1:Int)))),(8,some (nS g50 L10 c22)),(9,some (nP g50 ((2:Int).toNat))),(10,some (nI (atI L10 (2:Int)))),(12,some (nS g50 L10 c22)),(13,some (nP g50 ((3:Int).toNat))),(14,some (nI (atI L10 (3:Int)))),(16,some (nS g50 L10 c22)),(17,some (nP g50 ((4:Int).toNat))),(18,some (nI (atI L10 (4:Int)))),(20,some (nS g50 L10 c22)),(21,some (nP g50 ((5:Int).toNat))),(22,some (nI (atI L10 (5:Int)))),(24,some (nS g50 L10 c22)),(25,some (nP g50 ((6:Int).toNat))),(26,some (nI (atI L10 (6:Int)))),(28,some (nS g50 L10 c22)),(29,some (nP g50 ((7:Int).toNat))),(30,some (nI (atI L10 (7:Int)))),(32,some (nS g50 L10 c22)),(33,some (nP g50 ((8:Int).toNat))),(34,some (nI (atI L10 (8:Int)))),(37,some (nI x11))] [4,5,20,21,24,25,28,29,32,33,36,37,40,41,44,45,48,49,52,53,54,55] #[true,true,true,false,true,true,true,false,true,true,true,false,true,true,true,false,true,true,true,false,true,true,true,false,true,true,true,false,true,true,true,false,true,true,true,false,false,true,false,false] (by rfl) hF47 (by kernel_rfl) (by kernel_rfl) (by exact ⟨fun wS hw=>by kernel_rfl,fun wS hw=>run_idx rfl rfl rfl rfl rfl (inR_spec hc48).1 (inR_spec hc48).2 _,fun wS hw=>run_load1 rfl rfl rfl (hw.elim fun qs hw=>hw.atI 0 rfl hc48),fun wS hw=>by kernel_rfl,fun wS hw=>run_idx rfl rfl rfl rfl rfl (inR_spec hc51).1 (inR_spec hc51).2 _,fun wS hw=>run_load1 rfl rfl rfl (hw.elim fun qs hw=>hw.atI 0 rfl hc51),fun wS hw=>by kernel_rfl,fun wS hw=>run_idx rfl rfl rfl rfl rfl (inR_spec hc53).1 (inR_spec hc53).2 _,fun wS hw=>run_load1 rfl rfl rfl (hw.elim fun qs hw=>hw.atI 0 rfl hc53),fun wS hw=>by kernel_rfl,fun wS hw=>run_idx rfl rfl rfl rfl rfl (inR_spec hc55).1 (inR_spec hc55).2 _,fun wS hw=>run_load1 rfl rfl rfl (hw.elim fun qs hw=>hw.atI 0 rfl hc55),fun wS hw=>by kernel_rfl,fun wS hw=>run_idx rfl rfl rfl rfl rfl (inR_spec hc57).1 (inR_spec hc57).2 _,fun wS hw=>run_load1 rfl rfl rfl (hw.elim fun qs hw=>hw.atI 0 rfl hc57),fun wS hw=>by kernel_rfl,fun wS hw=>run_idx rfl rfl rfl rfl rfl (inR_spec hc59).1 (inR_spec hc59).2 _,fun wS hw=>run_load1 rfl rfl rfl (hw.elim fun qs hw=>hw.atI 0 rfl hc59),fun wS hw=>by kernel_rfl,fun wS hw=>run_idx rfl rfl rfl rfl rfl (inR_spec hc61).1 (inR_spec hc61).2 _,fun wS hw=>run_load1 rfl rfl rfl (hw.elim fun qs hw=>hw.atI 0 rfl hc61),fun wS hw=>by kernel_rfl,fun wS hw=>run_idx rfl rfl rfl rfl rfl (inR_spec hc63).1 (inR_spec hc63).2 _,fun wS hw=>run_load1 rfl rfl rfl (hw.elim fun qs hw=>hw.atI 0 rfl hc63),fun wS hw=>by kernel_rfl,fun wS hw=>run_idx rfl rfl rfl rfl rfl (inR_spec hc65).1 (inR_spec hc65).2 _,fun wS hw=>run_load1 rfl rfl rfl (hw.elim fun qs hw=>hw.atI 0 rfl hc65),fun wS hw=>by kernel_rfl,trivial⟩) (fun _ _ _ _ _ h=>h) ⟨_,hS68⟩ (l':=[(55,nI x11),(52,nI (atI L10 (8:Int))),(48,nI (atI L10 (7:Int))),(44,nI (atI L10 (6:Int))),(40,nI (atI L10 (5:Int))),(36,nI (atI L10 (4:Int))),(32,nI (atI L10 (3:Int))),(28,nI (atI L10 (2:Int))),(24,nI (atI L10 (1:Int))),(20,nI (atI L10 (0:Int))),(4,nB w)]) (by kernel_rfl) ?_
 intro a70 hF69; clear hF47
 refine any_call 3 #[true,true,true,true,true,true,true,false,true,true,true,false,true,true,true,false,true,true,true,false,true,true,true,false,true,true,true,false,true,true,true,false,true,true,true,false,false,true,false,false] 121 #[nI (atI L10 (0:Int))] hF69 rfl (by kernel_rfl) rfl rfl (by kernel_rfl) rfl (by kernel_rfl) (fun w=>by kernel_rfl) (by kernel_rfl) ?_
 obtain ⟨x71,hx72,hm73⟩:=bind1E hm66; clear hm66
 refine (ref11_number.ok hS68 hx72).mono ?_
 rintro _ w74 ⟨rfl,hS76⟩; clear hS68
 refine ⟨⟨_,hS76⟩,?_⟩
 intro a75 hF77; clear hF69
 refine any_call 7 #[true,true,true,true,true,true,true,true,true,true,true,false,true,true,true,false,true,true,true,false,true,true,true,false,true,true,true,false,true,true,true,false,true,true,true,false,false,true,false,false] 121 #[nI (atI L10 (1:Int))] hF77 rfl (by kernel_rfl) rfl rfl (by kernel_rfl) rfl (by kernel_rfl) (fun w=>by kernel_rfl) (by kernel_rfl) ?_
 obtain ⟨x78,hx79,hm80⟩:=bind1E hm73; clear hm73
 refine (ref11_number.ok hS76 hx79).mono ?_
 rintro _ w81 ⟨rfl,hS83⟩; clear hS76
 refine ⟨⟨_,hS83⟩,?_⟩
 intro a82 hF84; clear hF77
 refine any_call 11 #[true,true,true,true,true,true,true,true,true,true,true,true,true,true,true,false,true,true,true,false,true,true,true,false,true,true,true,false,true,true,true,false,true,true,true,false,false,true,false,false] 121 #[nI (atI L10 (2:Int))] hF84 rfl (by kernel_rfl) rfl rfl (by kernel_rfl) rfl (by kernel_rfl) (fun w=>by kernel_rfl) (by kernel_rfl) ?_
 obtain ⟨x85,hx86,hm87⟩:=bind1E hm80; clear hm80
 refine (ref11_number.ok hS83 hx86).mono ?_
 rintro _ w88 ⟨rfl,hS90⟩; clear hS83
 refine ⟨⟨_,hS90⟩,?_⟩
 intro a89 hF91; clear hF84
 refine any_call 15 #[true,true,true,true,true,true,true,true,true,true,true,true,true,true,true,true,true,true,true,false,true,true,true,false,true,true,true,false,true,true,true,false,true,true,true,false,false,true,false,false] 121 #[nI (atI L10 (3:Int))] hF91 rfl (by kernel_rfl) rfl rfl (by kernel_rfl) rfl (by kernel_rfl) (fun w=>by kernel_rfl) (by kernel_rfl) ?_
 obtain ⟨x92,hx93,hm94⟩:=bind1E hm87; clear hm87
 refine (ref11_number.ok hS90 hx93).mono ?_
 rintro _ w95 ⟨rfl,hS97⟩; clear hS90
 refine ⟨⟨_,hS97⟩,?_⟩
 intro a96 hF98; clear hF91
 refine any_call 19 #[true,true,true,true,true,true,true,true,true,true,true,true,true,true,true,true,true,true,true,true,true,true,true,false,true,true,true,false,true,true,true,false,true,true,true,false,false,true,false,false] 122 #[nI (atI L10 (4:Int))] hF98 rfl (by kernel_rfl) rfl rfl (by kernel_rfl) rfl (by kernel_rfl) (fun w=>by kernel_rfl) (by kernel_rfl) ?_
 obtain ⟨x99,hx100,hm101⟩:=bind1E hm94; clear hm94
 refine (ref11_place.ok hS97 hx100).mono ?_
 rintro _ w102 ⟨rfl,hS104⟩; clear hS97
 refine ⟨⟨_,hS104⟩,?_⟩
 intro a103 hF105; clear hF98
 refine any_call 23 #[true,true,true,true,true,true,true,true,true,true,true,true,true,true,true,true,true,true,true,true,true,true,true,true,true,true,true,false,true,true,true,false,true,true,true,false,false,true,false,false] 122 #[nI (atI L10 (5:Int))] hF105 rfl (by kernel_rfl) rfl rfl (by kernel_rfl) rfl (by kernel_rfl) (fun w=>by kernel_rfl) (by kernel_rfl) ?_
 obtain ⟨x106,hx107,hm108⟩:=bind1E hm101; clear hm101
 refine (ref11_place.ok hS104 hx107).mono ?_
 rintro _ w109 ⟨rfl,hS111⟩; clear hS104
 refine ⟨⟨_,hS111⟩,?_⟩
 intro a110 hF112; clear hF105
 refine any_call 27 #[true,true,true,true,true,true,true,true,true,true,true,true,true,true,true,true,true,true,true,true,true,true,true,true,true,true,true,true,true,true,true,false,true,true,true,false,false,true,false,false] 122 #[nI (atI L10 (6:Int))] hF112 rfl (by kernel_rfl) rfl rfl (by kernel_rfl) rfl (by kernel_rfl) (fun w=>by kernel_rfl) (by kernel_rfl) ?_
 obtain ⟨x113,hx114,hm115⟩:=bind1E hm108; clear hm108
 refine (ref11_place.ok hS111 hx114).mono ?_
 rintro _ w116 ⟨rfl,hS118⟩; clear hS111
 refine ⟨⟨_,hS118⟩,?_⟩
 intro a117 hF119; clear hF112
 refine any_call 31 #[true,true,true,true,true,true,true,true,true,true,true,true,true,true,true,true,true,true,true,true,true,true,true,true,true,true,true,true,true,true,true,true,true,true,true,false,false,true,false,false] 122 #[nI (atI L10 (7:Int))] hF119 rfl (by kernel_rfl) rfl rfl (by kernel_rfl) rfl (by kernel_rfl) (fun w=>by kernel_rfl) (by kernel_rfl) ?_
 obtain ⟨x120,hx121,hm122⟩:=bind1E hm115; clear hm115
 refine (ref11_place.ok hS118 hx121).mono ?_
 rintro _ w123 ⟨rfl,hS125⟩; clear hS118
 refine ⟨⟨_,hS125⟩,?_⟩
 intro a124 hF126; clear hF119
 refine any_call 35 #[true,true,true,true,true,true,true,true,true,true,true,true,true,true,true,true,true,true,true,true,true,true,true,true,true,true,true,true,true,true,true,true,true,true,true,true,false,true,false,false] 122 #[nI (atI L10 (8:Int))] hF126 rfl (by kernel_rfl) rfl rfl (by kernel_rfl) rfl (by kernel_rfl) (fun w=>by kernel_rfl) (by kernel_rfl) ?_
 obtain ⟨x127,hx128,hm129⟩:=bind1E hm122; clear hm122
 refine (ref11_place.ok hS125 hx128).mono ?_
 rintro _ w130 ⟨rfl,hS132⟩; clear hS125
 refine ⟨⟨_,hS132⟩,?_⟩
 intro a131 hF133; clear hF126
 refine any_many 1 [(36,some (.agg #[nI x71,nI x78,nI x85,nI x92,nI x99,nI x106,nI x113,nI x120,nI x127]))] [4,5,54,55] #[true,true,true,true,true,true,true,true,true,true,true,true,true,true,true,true,true,true,true,true,true,true,true,true,true,true,true,true,true,true,true,true,true,true,true,true,true,true,false,false] (by rfl) hF133 (by kernel_rfl) (by kernel_rfl) (by exact ⟨fun wS hw=>by kernel_rfl,trivial⟩) (fun _ _ _ _ _ h=>h) ⟨_,hS132⟩ (l':=[(54,.agg #[nI x71,nI x78,nI x85,nI x92,nI x99,nI x106,nI x113,nI x120,nI x127]),(55,nI x11),(4,nB w)]) (by kernel_rfl) ?_
 intro a135 hF134; clear hF133
 refine any_one 38 (by kernel_rfl) ?_
 have hS136:=hS132.pick2
 clear hS132
 refine op_store 38 #[true,true,true,true,true,true,true,true,true,true,true,true,true,true,true,true,true,true,true,true,true,true,true,true,true,true,true,true,true,true,true,true,true,true,true,true,true,true,true,false] (.agg #[nI x71,nI x78,nI x85,nI x92,nI x99,nI x106,nI x113,nI x120,nI x127]) #[nI x71,nI x78,nI x85,nI x92,nI x99,nI x106,nI x113,nI x120,nI x127] hF134 rfl (by kernel_rfl) rfl rfl rfl rfl (by kernel_rfl) hS136 (by kernel_rfl) (by kernel_rfl) (by kernel_rfl) (l':=[(54,.agg #[nI x71,nI x78,nI x85,nI x92,nI x99,nI x106,nI x113,nI x120,nI x127]),(55,nI x11),(4,nB w)]) (by kernel_rfl) (by kernel_rfl) ?_
 intro w137 a138 hS139 hF140; clear hF134 hS136
 refine ⟨⟨_,hS139.pick1⟩,?_⟩
 refine any_many 1 [(39,some (nI x11))] [4,5] #[true,true,true,true,true,true,true,true,true,true,true,true,true,true,true,true,true,true,true,true,true,true,true,true,true,true,true,true,true,true,true,true,true,true,true,true,true,true,true,true] (by rfl) hF140 (by kernel_rfl) (by kernel_rfl) (by exact ⟨fun wS hw=>by kernel_rfl,trivial⟩) (fun _ _ _ _ _ h=>h) ⟨_,hS139.pick1⟩ (l':=[(5,nI x11),(4,nB w)]) (by kernel_rfl) ?_
 intro a142 hF141; clear hF140
 refine any_done (by kernel_rfl) ?_
 have hS143:=hS139.pick1.drop
 clear hS139
 refine thenN ?_
 refine wp_ret ?_
 have hS144:=hS143.pick1
 clear hS143
 simp only [Option.some.injEq,Prod.mk.injEq] at hm129
 obtain ⟨rfl,rfl,rfl⟩:=hm129
 refine ev_retC hF141 _ [.agg #[nI x71,nI x78,nI x85,nI x92,nI x99,nI x106,nI x113,nI x120,nI x127],nI x11] (.tuple #[.agg #[nI x71,nI x78,nI x85,nI x92,nI x99,nI x106,nI x113,nI x120,nI x127],nI x11]) rfl ⟨⟨rfl,_,rfl,(run_loadA (cs:=[nI x71,nI x78,nI x85,nI x92,nI x99,nI x106,nI x113,nI x120,nI x127]) rfl rfl (by kernel_rfl) (blk_cells hS144 1 rfl rfl))⟩,⟨rfl,rfl⟩,trivial⟩ rfl ?_
 have hS148:=hS144.pick1.drop
 clear hS144
 exact ⟨rfl,hS148⟩
def ref11_Gor.l2b (L10:List Int) (x11:Int) (s12:HSt) (x49:Int) (x50:Int) (x51:Int) (x52:Int) (rec71:Int→Int→Int→Int→Int→Int→Int→Option (Gr×Int×HSt)) (x62:Int) (x63:Int) (x64:Int) (x65:Int) (x66:Int) (x67:Int) (x68:Int):Option (Gr×Int×HSt):=(if (decide (x68<6)) then (if (inR (IntKind.i64.wrap (3+x68)) L10.length) then (if (x68 == 0) then rec71 (atI L10 (IntKind.i64.wrap (3+x68))) x63 x64 x65 x66 x67 (IntKind.i64.wrap (x68+1)) else (if (x68 == 1) then rec71 x62 (atI L10 (IntKind.i64.wrap (3+x68))) x64 x65 x66 x67 (IntKind.i64.wrap (x68+1)) else (if (x68 == 2) then rec71 x62 x63 (atI L10 (IntKind.i64.wrap (3+x68))) x65 x66 x67 (IntKind.i64.wrap (x68+1)) else (if (x68 == 3) then rec71 x62 x63 x64 (atI L10 (IntKind.i64.wrap (3+x68))) x66 x67 (IntKind.i64.wrap (x68+1)) else (if (x68 == 4) then rec71 x62 x63 x64 x65 (atI L10 (IntKind.i64.wrap (3+x68))) x67 (IntKind.i64.wrap (x68+1)) else (if (x68 == 5) then rec71 x62 x63 x64 x65 x66 (atI L10 (IntKind.i64.wrap (3+x68))) (IntKind.i64.wrap (x68+1)) else none)))))) else none) else some ((⟨x49,x50,x51,x62,x63,x64,x65,x66,x67,x52⟩:Gr),x11,s12))
def ref11_Gor.l2 (L10:List Int) (x11:Int) (s12:HSt) (x49:Int) (x50:Int) (x51:Int) (x52:Int):Nat→Int→Int→Int→Int→Int→Int→Int→Option (Gr×Int×HSt)
  | 0=>fun _ _ _ _ _ _ _=>none
  | kI+1=>ref11_Gor.l2b L10 x11 s12 x49 x50 x51 x52 (ref11_Gor.l2 L10 x11 s12 x49 x50 x51 x52 kI)
def ref11_Gor.j1 (k:Nat) (L10:List Int) (x11:Int) (s12:HSt) (x49:Int) (x50:Int) (x51:Int) (x52:Int):Option (Gr×Int×HSt):=ref11_Gor.l2 L10 x11 s12 x49 x50 x51 x52 k 0 0 0 0 0 0 0
def ref11_Gor.m (k:Nat) (s0:HSt) (i1:Int):Option (Gr×Int×HSt):=bind3 (ref11_words.m k s0 i1 4) fun L10 x11 s12=>(if (x11 != 0) then some ((⟨0,0,0,0,0,0,0,0,0,0⟩:Gr),x11,s12) else (if (inR (0:Int) L10.length) then (if (inR (1:Int) L10.length) then (if (inR (2:Int) L10.length) then (if (inR (9:Int) L10.length) then bind1 (ref11_number.m k (atI L10 (0:Int))) fun x195=>bind1 (ref11_number.m k (atI L10 (1:Int))) fun x202=>bind1 (ref11_number.m k (atI L10 (2:Int))) fun x209=>bind1 (ref11_place.m k (atI L10 (9:Int))) fun x216=>ref11_Gor.j1 k L10 x11 s12 x195 x202 x209 x216 else none) else none) else none) else none))
set_option maxRecDepth 100000 in
set_option maxHeartbeats 1500000 in
theorem ref11_Gor.ok {w0 w:World} {F0:List Nat} {ps:List Piece} {k:Nat} {b0 ab0 sb0 g0 cb0:Nat} {s0:HSt} {i1:Int} {r0:Gr} {r1:Int} {t0:HSt} (hS:St w0 F0 (RHeapP b0 ab0 sb0 g0 cb0 s0::ps) w) (hm:ref11_Gor.m k s0 i1=some (r0,r1,t0)) :
    Calls Tryz.prog 30 #[nP b0 0,nI i1] w fun e w'=>e=.returned (.tuple #[.agg #[nI (r0.id),nI (r0.status),nI (r0.pc),nI (r0.a),nI (r0.b),nI (r0.c),nI (r0.d),nI (r0.e),nI (r0.f),nI (r0.sudogs)],.int .i64 r1])∧St w0 F0 (RHeapP b0 ab0 sb0 g0 cb0 t0::ps) w':=by
 refine ev_enterL 51 [nP b0 0,nI i1] Tryz.func30 rfl rfl (by simp) ?_
 intro a hF
 have hF0:Fr 51 a [(0,nP b0 0),(1,nI i1)]:=hF; clear hF
 unfold ref11_Gor.m at hm
 refine wp_seq (wp_region_lit ?_)
 refine ev_runs 1 hF0 (l':=[(4,nB w),(0,nP b0 0),(1,nI i1)]) (w':=w.alloc (.cells #[nI 0,nI 0,nI 0,nI 0,nI 0,nI 0,nI 0,nI 0,nI 0,nI 0] 28)) (by kernel_rfl) ?_
 intro a2 hF1; clear hF0
 have hS4:St w0 F0 (BlkP (w.heap.size) 28 #[nI 0,nI 0,nI 0,nI 0,nI 0,nI 0,nI 0,nI 0,nI 0,nI 0]::RHeapP b0 ab0 sb0 g0 cb0 s0::ps) (w.alloc (.cells #[nI 0,nI 0,nI 0,nI 0,nI 0,nI 0,nI 0,nI 0,nI 0,nI 0] 28)):=St.new hS #[nI 0,nI 0,nI 0,nI 0,nI 0,nI 0,nI 0,nI 0,nI 0,nI 0] 28
 refine ev_runK 1 hF1 [0,1,4] (l':=[(4,nB w),(0,nP b0 0),(1,nI i1)]) (w':=w.alloc (.cells #[nI 0,nI 0,nI 0,nI 0,nI 0,nI 0,nI 0,nI 0,nI 0,nI 0] 28)) (by kernel_rfl) ?_
 intro a6 hF5; clear hF1
 refine wpList_nil (thenN (wp_seq (wp_region_lit ?_)))
 refine ev_runs 2 hF5 (l':=[(12,nI i1),(11,nP b0 0),(4,nB w),(0,nP b0 0),(1,nI i1)]) (w':=w.alloc (.cells #[nI 0,nI 0,nI 0,nI 0,nI 0,nI 0,nI 0,nI 0,nI 0,nI 0] 28)) (by kernel_rfl) ?_
 intro a8 hF7; clear hF5
 have hS9:=hS4.pick1
 clear hS4
 refine ev_call 120 #[nP b0 0,nI i1,nI 4] hF7 rfl rfl (by kernel_rfl) rfl (by kernel_rfl) (fun w=>by kernel_rfl) ?_
 obtain ⟨L10,x11,s12,hx13,hm14⟩:=bind3E hm; clear hm
 refine (ref11_words.ok hS9 hx13).mono ?_
 rintro _ w15 ⟨z19,rfl,hS17⟩ a16 hF18; clear hF7 hS9
 obtain ⟨hl24,p21,c22,rfl,hp23⟩:=St.shape hS17 1 rfl
 refine ev_runK 5 hF18 [4,6,7] (l':=[(7,nI x11),(6,.slice p21 L10.length c22),(4,nB w)]) (w':=w15) (by kernel_rfl) ?_
 intro a26 hF25; clear hF18
 refine wpList_nil (thenN (wp_seq (wp_seq (wp_region_lit ?_))))
 refine ev_runK 2 hF25 [4,6,7,17] (l':=[(17,.bool (x11 != 0)),(7,nI x11),(6,.slice p21 L10.length c22),(4,nB w)]) (w':=w15) (by kernel_rfl) ?_
 intro a28 hF27; clear hF25
 refine wpList_nil (thenN ?_)
 cases hc29:(x11 != 0)
 case true =>
  rw [hc29] at hF27
  have hm30:=ifYes hc29 hm14; clear hm14
  refine ev_condT hF27 rfl rfl ?_
  refine wp_seq (wp_region_lit ?_)
  refine ev_runs 2 hF27 (l':=[(19,nI x11),(18,.agg #[nI 0,nI 0,nI 0,nI 0,nI 0,nI 0,nI 0,nI 0,nI 0,nI 0]),(17,.bool true),(7,nI x11),(6,.slice p21 L10.length c22),(4,nB w)]) (w':=w15) (by kernel_rfl) ?_
  intro a32 hF31; clear hF27
  have hS33:=hS17.pick2
  clear hS17
  refine ev_store (.agg #[nI 0,nI 0,nI 0,nI 0,nI 0,nI 0,nI 0,nI 0,nI 0,nI 0]) #[nI 0,nI 0,nI 0,nI 0,nI 0,nI 0,nI 0,nI 0,nI 0,nI 0] hF31 (by kernel_rfl) rfl rfl rfl rfl (by kernel_rfl) hS33 (by kernel_rfl) (by kernel_rfl) (by kernel_rfl) (l':=[(19,nI x11),(18,.agg #[nI 0,nI 0,nI 0,nI 0,nI 0,nI 0,nI 0,nI 0,nI 0,nI 0]),(17,.bool true),(7,nI x11),(6,.slice p21 L10.length c22),(4,nB w)]) (by kernel_rfl) ?_
  intro w34 a35 hS36 hF37; clear hF31 hS33
  refine ev_runK 1 hF37 [4,5] (l':=[(5,nI x11),(4,nB w)]) (w':=w34) (by kernel_rfl) ?_
  intro a39 hF38; clear hF37
  refine wpList_nil ?_
  have hS40:=hS36.pick2.drop
  clear hS36
  refine thenN ?_
  refine wp_ret ?_
  refine thenR ?_
  have hS41:=hS40.pick1
  clear hS40
  simp only [Option.some.injEq,Prod.mk.injEq] at hm30
  obtain ⟨rfl,rfl,rfl⟩:=hm30
  refine ev_retC hF38 _ [.agg #[nI 0,nI 0,nI 0,nI 0,nI 0,nI 0,nI 0,nI 0,nI 0,nI 0],nI x11] (.tuple #[.agg #[nI 0,nI 0,nI 0,nI 0,nI 0,nI 0,nI 0,nI 0,nI 0,nI 0],nI x11]) rfl ⟨⟨rfl,_,rfl,(run_loadA (cs:=[nI 0,nI 0,nI 0,nI 0,nI 0,nI 0,nI 0,nI 0,nI 0,nI 0]) rfl rfl (by kernel_rfl) (blk_cells hS41 1 rfl rfl))⟩,⟨rfl,rfl⟩,trivial⟩ rfl ?_
  have hS45:=hS41.pick1.drop
  clear hS41
  exact ⟨rfl,hS45⟩
 rw [hc29] at hF27
 have hm46:=ifNot hc29 hm14; clear hm14
 refine ev_condF hF27 rfl rfl ?_
 refine wp_skip ?_
 have hF47:=hF27.keep [4,6,7]
 clear hF27
 refine thenN (wp_seq ?_)
 refine joinQ (fun aI wI=>∃ (g48:Nat) (x49:Int) (x50:Int) (x51:Int) (x52:Int),Fr 51 aI [(8,nP g48 0),(7,nI x11),(6,.slice p21 L10.length c22),(4,nB w)]∧St w0 F0 (BlkP g48 28 #[nI x49,nI x50,nI x51,nI 0,nI 0,nI 0,nI 0,nI 0,nI 0,nI x52]::RowP (.slice p21 L10.length c22) L10::RHeapP b0 ab0 sb0 g0 cb0 s12::BlkP (w.heap.size) 28 #[nI 0,nI 0,nI 0,nI 0,nI 0,nI 0,nI 0,nI 0,nI 0,nI 0]::ps) wI∧ref11_Gor.j1 k L10 x11 s12 x49 x50 x51 x52=some (r0,r1,t0)) ?_ ?_
 rotate_left
 · rintro a54 w55 ⟨g48,x49,x50,x51,x52,hF56,hS57,hm58⟩
   clear hF47 hS17 hm46
   unfold ref11_Gor.j1 at hm58
   refine thenN (wp_seq (wp_seq (wp_region_lit ?_)))
   refine ev_runs 1 hF56 (l':=[(9,nI 0),(8,nP g48 0),(7,nI x11),(6,.slice p21 L10.length c22),(4,nB w)]) (w':=w55) (by kernel_rfl) ?_
   intro a61 hF60; clear hF56
   refine wpList_nil (thenN ?_)
   refine wp_block ?_
   refine wp_loop_ghost (fun kI aI wI=>∃ (x62:Int) (x63:Int) (x64:Int) (x65:Int) (x66:Int) (x67:Int) (x68:Int),Fr 51 aI [(9,nI x68),(8,nP g48 0),(7,nI x11),(6,.slice p21 L10.length c22),(4,nB w)]∧St w0 F0 (BlkP g48 28 #[nI x49,nI x50,nI x51,nI x62,nI x63,nI x64,nI x65,nI x66,nI x67,nI x52]::RowP (.slice p21 L10.length c22) L10::RHeapP b0 ab0 sb0 g0 cb0 s12::BlkP (w.heap.size) 28 #[nI 0,nI 0,nI 0,nI 0,nI 0,nI 0,nI 0,nI 0,nI 0,nI 0]::ps) wI∧ref11_Gor.l2 L10 x11 s12 x49 x50 x51 x52 kI x62 x63 x64 x65 x66 x67 x68=some (r0,r1,t0)) k ⟨0,0,0,0,0,0,0,hF60,hS57,hm58⟩ ?_
   rintro k69 a70 w71 ⟨x62,x63,x64,x65,x66,x67,x68,hF72,hS73,hm74⟩
   clear hF60 hS57 hm58
   rcases k69 with _ | k69
   · cases hm74
   have hm75:ref11_Gor.l2b L10 x11 s12 x49 x50 x51 x52 (ref11_Gor.l2 L10 x11 s12 x49 x50 x51 x52 k69) x62 x63 x64 x65 x66 x67 x68=some (r0,r1,t0):=hm74
   clear hm74
   unfold ref11_Gor.l2b at hm75
   refine wp_seq (wp_seq (wp_region_lit ?_))
   refine ev_runK 2 hF72 [4,6,7,8,9,38] (l':=[(38,.bool (decide (x68<6))),(9,nI x68),(8,nP g48 0),(7,nI x11),(6,.slice p21 L10.length c22),(4,nB w)]) (w':=w71) (by kernel_rfl) ?_
   intro a77 hF76; clear hF72
   refine wpList_nil (thenN ?_)
   cases hc78:(decide (x68<6))
   case true =>
    rw [hc78] at hF76
    have hm79:=ifYes hc78 hm75; clear hm75
    refine ev_condT hF76 rfl rfl ?_
    refine wp_skip ?_
    have hF80:=hF76.keep [4,6,7,8,9]
    clear hF76
    refine thenN (wp_seq ?_)
    refine wp_block ?_
    refine wp_region_lit ?_
    refine ev_runs 4 hF80 (l':=[(44,nI (IntKind.i64.wrap (3+x68))),(43,nI x68),(42,.slice p21 L10.length c22),(41,nI x68),(9,nI x68),(8,nP g48 0),(7,nI x11),(6,.slice p21 L10.length c22),(4,nB w)]) (w':=w71) (by kernel_rfl) ?_
    intro a82 hF81; clear hF80
    obtain ⟨hc83,hm84⟩:=ifTE hm79; clear hm79
    obtain ⟨g85,rfl⟩:=hp23.resolve_left (by have:=inR_spec hc83; omega)
    refine ev_one (nP g85 ((IntKind.i64.wrap (3+x68)).toNat)) w71 hF81 (by kernel_rfl) rfl (by kernel_rfl) (run_idx rfl rfl rfl rfl rfl (inR_spec hc83).1 (inR_spec hc83).2 _) (l':=[(45,nP g85 ((IntKind.i64.wrap (3+x68)).toNat)),(44,nI (IntKind.i64.wrap (3+x68))),(43,nI x68),(42,nS g85 L10 c22),(41,nI x68),(9,nI x68),(8,nP g48 0),(7,nI x11),(6,nS g85 L10 c22),(4,nB w)]) (by kernel_rfl) ?_
    intro a87 hF86; clear hF81
    refine ev_one (nI (atI L10 (IntKind.i64.wrap (3+x68)))) w71 hF86 (by kernel_rfl) rfl (by kernel_rfl) (run_load1 rfl rfl rfl (hS73.atI 1 rfl hc83)) (l':=[(46,nI (atI L10 (IntKind.i64.wrap (3+x68)))),(45,nP g85 ((IntKind.i64.wrap (3+x68)).toNat)),(44,nI (IntKind.i64.wrap (3+x68))),(43,nI x68),(42,nS g85 L10 c22),(41,nI x68),(9,nI x68),(8,nP g48 0),(7,nI x11),(6,nS g85 L10 c22),(4,nB w)]) (by kernel_rfl) ?_
    intro a89 hF88; clear hF86
    refine ev_runs 1 hF88 (l':=[(47,nP g48 3),(46,nI (atI L10 (IntKind.i64.wrap (3+x68)))),(45,nP g85 ((IntKind.i64.wrap (3+x68)).toNat)),(44,nI (IntKind.i64.wrap (3+x68))),(43,nI x68),(42,nS g85 L10 c22),(41,nI x68),(9,nI x68),(8,nP g48 0),(7,nI x11),(6,nS g85 L10 c22),(4,nB w)]) (w':=w71) (by kernel_rfl) ?_
    intro a91 hF90; clear hF88
    cases hc92:(x68 == 0)
    case true =>
     have hm93:=ifYes hc92 hm84; clear hm84
     refine ev_one (nP g48 3) w71 hF90 (by kernel_rfl) rfl (by kernel_rfl) (run_idxA (q:=0) rfl rfl rfl rfl (congrArg (Value.int .i64) (eq_of_beq hc92)) (by decide) (by decide) (by kernel_rfl) _) (l':=[(48,nP g48 3),(47,nP g48 3),(46,nI (atI L10 (IntKind.i64.wrap (3+x68)))),(45,nP g85 ((IntKind.i64.wrap (3+x68)).toNat)),(44,nI (IntKind.i64.wrap (3+x68))),(43,nI x68),(42,nS g85 L10 c22),(41,nI x68),(9,nI x68),(8,nP g48 0),(7,nI x11),(6,nS g85 L10 c22),(4,nB w)]) (by kernel_rfl) ?_
     intro a95 hF94; clear hF90
     refine ev_store (nI (atI L10 (IntKind.i64.wrap (3+x68)))) #[nI x49,nI x50,nI x51,nI (atI L10 (IntKind.i64.wrap (3+x68))),nI x63,nI x64,nI x65,nI x66,nI x67,nI x52] hF94 (by kernel_rfl) rfl rfl rfl rfl (by kernel_rfl) hS73 (by kernel_rfl) (by kernel_rfl) (by kernel_rfl) (l':=[(48,nP g48 3),(47,nP g48 3),(46,nI (atI L10 (IntKind.i64.wrap (3+x68)))),(45,nP g85 ((IntKind.i64.wrap (3+x68)).toNat)),(44,nI (IntKind.i64.wrap (3+x68))),(43,nI x68),(42,nS g85 L10 c22),(41,nI x68),(9,nI x68),(8,nP g48 0),(7,nI x11),(6,nS g85 L10 c22),(4,nB w)]) (by kernel_rfl) ?_
     intro w96 a97 hS98 hF99; clear hF94 hS73
     refine wpList_nil ?_
     have hF100:=hF99.keep [4,6,7,8,9]
     clear hF99
     refine blockN ?_
     refine thenN (wp_region_lit ?_)
     refine ev_runK 3 hF100 [4,6,7,8,9] (l':=[(9,nI (IntKind.i64.wrap (x68+1))),(8,nP g48 0),(7,nI x11),(6,nS g85 L10 c22),(4,nB w)]) (w':=w96) (by kernel_rfl) ?_
     intro a102 hF101; clear hF100
     refine wpList_nil ?_
     exact thenN ⟨k69,Nat.lt_succ_self _,atI L10 (IntKind.i64.wrap (3+x68)),x63,x64,x65,x66,x67,IntKind.i64.wrap (x68+1),hF101,hS98,hm93⟩
    have hm103:=ifNot hc92 hm84; clear hm84
    cases hc104:(x68 == 1)
    case true =>
     have hm105:=ifYes hc104 hm103; clear hm103
     refine ev_one (nP g48 4) w71 hF90 (by kernel_rfl) rfl (by kernel_rfl) (run_idxA (q:=1) rfl rfl rfl rfl (congrArg (Value.int .i64) (eq_of_beq hc104)) (by decide) (by decide) (by kernel_rfl) _) (l':=[(48,nP g48 4),(47,nP g48 3),(46,nI (atI L10 (IntKind.i64.wrap (3+x68)))),(45,nP g85 ((IntKind.i64.wrap (3+x68)).toNat)),(44,nI (IntKind.i64.wrap (3+x68))),(43,nI x68),(42,nS g85 L10 c22),(41,nI x68),(9,nI x68),(8,nP g48 0),(7,nI x11),(6,nS g85 L10 c22),(4,nB w)]) (by kernel_rfl) ?_
     intro a107 hF106; clear hF90
     refine ev_store (nI (atI L10 (IntKind.i64.wrap (3+x68)))) #[nI x49,nI x50,nI x51,nI x62,nI (atI L10 (IntKind.i64.wrap (3+x68))),nI x64,nI x65,nI x66,nI x67,nI x52] hF106 (by kernel_rfl) rfl rfl rfl rfl (by kernel_rfl) hS73 (by kernel_rfl) (by kernel_rfl) (by kernel_rfl) (l':=[(48,nP g48 4),(47,nP g48 3),(46,nI (atI L10 (IntKind.i64.wrap (3+x68)))),(45,nP g85 ((IntKind.i64.wrap (3+x68)).toNat)),(44,nI (IntKind.i64.wrap (3+x68))),(43,nI x68),(42,nS g85 L10 c22),(41,nI x68),(9,nI x68),(8,nP g48 0),(7,nI x11),(6,nS g85 L10 c22),(4,nB w)]) (by kernel_rfl) ?_
     intro w108 a109 hS110 hF111; clear hF106 hS73
     refine wpList_nil ?_
     have hF112:=hF111.keep [4,6,7,8,9]
     clear hF111
     refine blockN ?_
     refine thenN (wp_region_lit ?_)
     refine ev_runK 3 hF112 [4,6,7,8,9] (l':=[(9,nI (IntKind.i64.wrap (x68+1))),(8,nP g48 0),(7,nI x11),(6,nS g85 L10 c22),(4,nB w)]) (w':=w108) (by kernel_rfl) ?_
     intro a114 hF113; clear hF112
     refine wpList_nil ?_
     exact thenN ⟨k69,Nat.lt_succ_self _,x62,atI L10 (IntKind.i64.wrap (3+x68)),x64,x65,x66,x67,IntKind.i64.wrap (x68+1),hF113,hS110,hm105⟩
    have hm115:=ifNot hc104 hm103; clear hm103
    cases hc116:(x68 == 2)
    case true =>
     have hm117:=ifYes hc116 hm115; clear hm115
     refine ev_one (nP g48 5) w71 hF90 (by kernel_rfl) rfl (by kernel_rfl) (run_idxA (q:=2) rfl rfl rfl rfl (congrArg (Value.int .i64) (eq_of_beq hc116)) (by decide) (by decide) (by kernel_rfl) _) (l':=[(48,nP g48 5),(47,nP g48 3),(46,nI (atI L10 (IntKind.i64.wrap (3+x68)))),(45,nP g85 ((IntKind.i64.wrap (3+x68)).toNat)),(44,nI (IntKind.i64.wrap (3+x68))),(43,nI x68),(42,nS g85 L10 c22),(41,nI x68),(9,nI x68),(8,nP g48 0),(7,nI x11),(6,nS g85 L10 c22),(4,nB w)]) (by kernel_rfl) ?_
     intro a119 hF118; clear hF90
     refine ev_store (nI (atI L10 (IntKind.i64.wrap (3+x68)))) #[nI x49,nI x50,nI x51,nI x62,nI x63,nI (atI L10 (IntKind.i64.wrap (3+x68))),nI x65,nI x66,nI x67,nI x52] hF118 (by kernel_rfl) rfl rfl rfl rfl (by kernel_rfl) hS73 (by kernel_rfl) (by kernel_rfl) (by kernel_rfl) (l':=[(48,nP g48 5),(47,nP g48 3),(46,nI (atI L10 (IntKind.i64.wrap (3+x68)))),(45,nP g85 ((IntKind.i64.wrap (3+x68)).toNat)),(44,nI (IntKind.i64.wrap (3+x68))),(43,nI x68),(42,nS g85 L10 c22),(41,nI x68),(9,nI x68),(8,nP g48 0),(7,nI x11),(6,nS g85 L10 c22),(4,nB w)]) (by kernel_rfl) ?_
     intro w120 a121 hS122 hF123; clear hF118 hS73
     refine wpList_nil ?_
     have hF124:=hF123.keep [4,6,7,8,9]
     clear hF123
     refine blockN ?_
     refine thenN (wp_region_lit ?_)
     refine ev_runK 3 hF124 [4,6,7,8,9] (l':=[(9,nI (IntKind.i64.wrap (x68+1))),(8,nP g48 0),(7,nI x11),(6,nS g85 L10 c22),(4,nB w)]) (w':=w120) (by kernel_rfl) ?_
     intro a126 hF125; clear hF124
     refine wpList_nil ?_
     exact thenN ⟨k69,Nat.lt_succ_self _,x62,x63,atI L10 (IntKind.i64.wrap (3+x68)),x65,x66,x67,IntKind.i64.wrap (x68+1),hF125,hS122,hm117⟩
    have hm127:=ifNot hc116 hm115; clear hm115
    cases hc128:(x68 == 3)
    case true =>
     have hm129:=ifYes hc128 hm127; clear hm127
     refine ev_one (nP g48 6) w71 hF90 (by kernel_rfl) rfl (by kernel_rfl) (run_idxA (q:=3) rfl rfl rfl rfl (congrArg (Value.int .i64) (eq_of_beq hc128)) (by decide) (by decide) (by kernel_rfl) _) (l':=[(48,nP g48 6),(47,nP g48 3),(46,nI (atI L10 (IntKind.i64.wrap (3+x68)))),(45,nP g85 ((IntKind.i64.wrap (3+x68)).toNat)),(44,nI (IntKind.i64.wrap (3+x68))),(43,nI x68),(42,nS g85 L10 c22),(41,nI x68),(9,nI x68),(8,nP g48 0),(7,nI x11),(6,nS g85 L10 c22),(4,nB w)]) (by kernel_rfl) ?_
     intro a131 hF130; clear hF90
     refine ev_store (nI (atI L10 (IntKind.i64.wrap (3+x68)))) #[nI x49,nI x50,nI x51,nI x62,nI x63,nI x64,nI (atI L10 (IntKind.i64.wrap (3+x68))),nI x66,nI x67,nI x52] hF130 (by kernel_rfl) rfl rfl rfl rfl (by kernel_rfl) hS73 (by kernel_rfl) (by kernel_rfl) (by kernel_rfl) (l':=[(48,nP g48 6),(47,nP g48 3),(46,nI (atI L10 (IntKind.i64.wrap (3+x68)))),(45,nP g85 ((IntKind.i64.wrap (3+x68)).toNat)),(44,nI (IntKind.i64.wrap (3+x68))),(43,nI x68),(42,nS g85 L10 c22),(41,nI x68),(9,nI x68),(8,nP g48 0),(7,nI x11),(6,nS g85 L10 c22),(4,nB w)]) (by kernel_rfl) ?_
     intro w132 a133 hS134 hF135; clear hF130 hS73
     refine wpList_nil ?_
     have hF136:=hF135.keep [4,6,7,8,9]
     clear hF135
     refine blockN ?_
     refine thenN (wp_region_lit ?_)
     refine ev_runK 3 hF136 [4,6,7,8,9] (l':=[(9,nI (IntKind.i64.wrap (x68+1))),(8,nP g48 0),(7,nI x11),(6,nS g85 L10 c22),(4,nB w)]) (w':=w132) (by kernel_rfl) ?_
     intro a138 hF137; clear hF136
     refine wpList_nil ?_
     exact thenN ⟨k69,Nat.lt_succ_self _,x62,x63,x64,atI L10 (IntKind.i64.wrap (3+x68)),x66,x67,IntKind.i64.wrap (x68+1),hF137,hS134,hm129⟩
    have hm139:=ifNot hc128 hm127; clear hm127
    cases hc140:(x68 == 4)
    case true =>
     have hm141:=ifYes hc140 hm139; clear hm139
     refine ev_one (nP g48 7) w71 hF90 (by kernel_rfl) rfl (by kernel_rfl) (run_idxA (q:=4) rfl rfl rfl rfl (congrArg (Value.int .i64) (eq_of_beq hc140)) (by decide) (by decide) (by kernel_rfl) _) (l':=[(48,nP g48 7),(47,nP g48 3),(46,nI (atI L10 (IntKind.i64.wrap (3+x68)))),(45,nP g85 ((IntKind.i64.wrap (3+x68)).toNat)),(44,nI (IntKind.i64.wrap (3+x68))),(43,nI x68),(42,nS g85 L10 c22),(41,nI x68),(9,nI x68),(8,nP g48 0),(7,nI x11),(6,nS g85 L10 c22),(4,nB w)]) (by kernel_rfl) ?_
     intro a143 hF142; clear hF90
     refine ev_store (nI (atI L10 (IntKind.i64.wrap (3+x68)))) #[nI x49,nI x50,nI x51,nI x62,nI x63,nI x64,nI x65,nI (atI L10 (IntKind.i64.wrap (3+x68))),nI x67,nI x52] hF142 (by kernel_rfl) rfl rfl rfl rfl (by kernel_rfl) hS73 (by kernel_rfl) (by kernel_rfl) (by kernel_rfl) (l':=[(48,nP g48 7),(47,nP g48 3),(46,nI (atI L10 (IntKind.i64.wrap (3+x68)))),(45,nP g85 ((IntKind.i64.wrap (3+x68)).toNat)),(44,nI (IntKind.i64.wrap (3+x68))),(43,nI x68),(42,nS g85 L10 c22),(41,nI x68),(9,nI x68),(8,nP g48 0),(7,nI x11),(6,nS g85 L10 c22),(4,nB w)]) (by kernel_rfl) ?_
     intro w144 a145 hS146 hF147; clear hF142 hS73
     refine wpList_nil ?_
     have hF148:=hF147.keep [4,6,7,8,9]
     clear hF147
     refine blockN ?_
     refine thenN (wp_region_lit ?_)
     refine ev_runK 3 hF148 [4,6,7,8,9] (l':=[(9,nI (IntKind.i64.wrap (x68+1))),(8,nP g48 0),(7,nI x11),(6,nS g85 L10 c22),(4,nB w)]) (w':=w144) (by kernel_rfl) ?_
     intro a150 hF149; clear hF148
     refine wpList_nil ?_
     exact thenN ⟨k69,Nat.lt_succ_self _,x62,x63,x64,x65,atI L10 (IntKind.i64.wrap (3+x68)),x67,IntKind.i64.wrap (x68+1),hF149,hS146,hm141⟩
    have hm151:=ifNot hc140 hm139; clear hm139
    cases hc152:(x68 == 5)
    case true =>
     have hm153:=ifYes hc152 hm151; clear hm151
     refine ev_one (nP g48 8) w71 hF90 (by kernel_rfl) rfl (by kernel_rfl) (run_idxA (q:=5) rfl rfl rfl rfl (congrArg (Value.int .i64) (eq_of_beq hc152)) (by decide) (by decide) (by kernel_rfl) _) (l':=[(48,nP g48 8),(47,nP g48 3),(46,nI (atI L10 (IntKind.i64.wrap (3+x68)))),(45,nP g85 ((IntKind.i64.wrap (3+x68)).toNat)),(44,nI (IntKind.i64.wrap (3+x68))),(43,nI x68),(42,nS g85 L10 c22),(41,nI x68),(9,nI x68),(8,nP g48 0),(7,nI x11),(6,nS g85 L10 c22),(4,nB w)]) (by kernel_rfl) ?_
     intro a155 hF154; clear hF90
     refine ev_store (nI (atI L10 (IntKind.i64.wrap (3+x68)))) #[nI x49,nI x50,nI x51,nI x62,nI x63,nI x64,nI x65,nI x66,nI (atI L10 (IntKind.i64.wrap (3+x68))),nI x52] hF154 (by kernel_rfl) rfl rfl rfl rfl (by kernel_rfl) hS73 (by kernel_rfl) (by kernel_rfl) (by kernel_rfl) (l':=[(48,nP g48 8),(47,nP g48 3),(46,nI (atI L10 (IntKind.i64.wrap (3+x68)))),(45,nP g85 ((IntKind.i64.wrap (3+x68)).toNat)),(44,nI (IntKind.i64.wrap (3+x68))),(43,nI x68),(42,nS g85 L10 c22),(41,nI x68),(9,nI x68),(8,nP g48 0),(7,nI x11),(6,nS g85 L10 c22),(4,nB w)]) (by kernel_rfl) ?_
     intro w156 a157 hS158 hF159; clear hF154 hS73
     refine wpList_nil ?_
     have hF160:=hF159.keep [4,6,7,8,9]
     clear hF159
     refine blockN ?_
     refine thenN (wp_region_lit ?_)
     refine ev_runK 3 hF160 [4,6,7,8,9] (l':=[(9,nI (IntKind.i64.wrap (x68+1))),(8,nP g48 0),(7,nI x11),(6,nS g85 L10 c22),(4,nB w)]) (w':=w156) (by kernel_rfl) ?_
     intro a162 hF161; clear hF160
     refine wpList_nil ?_
     exact thenN ⟨k69,Nat.lt_succ_self _,x62,x63,x64,x65,x66,atI L10 (IntKind.i64.wrap (3+x68)),IntKind.i64.wrap (x68+1),hF161,hS158,hm153⟩
    have hm163:=ifNot hc152 hm151; clear hm151
    exact absurd hm163 (by simp)
   rw [hc78] at hF76
   have hm164:=ifNot hc78 hm75; clear hm75
   refine ev_condF hF76 rfl rfl ?_
   refine wp_exit ?_
   refine thenE ?_
   refine thenE ?_
   refine blockE ?_
   refine thenN (wp_seq (wp_region_lit ?_))
   refine ev_one (.agg #[nI x49,nI x50,nI x51,nI x62,nI x63,nI x64,nI x65,nI x66,nI x67,nI x52]) w71 hF76 (by kernel_rfl) rfl (by kernel_rfl) (run_loadV rfl rfl (run_loadA (cs:=[nI x49,nI x50,nI x51,nI x62,nI x63,nI x64,nI x65,nI x66,nI x67,nI x52]) rfl rfl (by kernel_rfl) (blk_cells hS73 0 rfl rfl))) (l':=[(49,.agg #[nI x49,nI x50,nI x51,nI x62,nI x63,nI x64,nI x65,nI x66,nI x67,nI x52]),(38,.bool false),(9,nI x68),(8,nP g48 0),(7,nI x11),(6,.slice p21 L10.length c22),(4,nB w)]) (by kernel_rfl) ?_
   intro a166 hF165; clear hF76
   refine ev_runs 1 hF165 (l':=[(50,nI x11),(49,.agg #[nI x49,nI x50,nI x51,nI x62,nI x63,nI x64,nI x65,nI x66,nI x67,nI x52]),(38,.bool false),(9,nI x68),(8,nP g48 0),(7,nI x11),(6,.slice p21 L10.length c22),(4,nB w)]) (w':=w71) (by kernel_rfl) ?_
   intro a168 hF167; clear hF165
   have hS169:=hS73.pick3
   clear hS73
   refine ev_store (.agg #[nI x49,nI x50,nI x51,nI x62,nI x63,nI x64,nI x65,nI x66,nI x67,nI x52]) #[nI x49,nI x50,nI x51,nI x62,nI x63,nI x64,nI x65,nI x66,nI x67,nI x52] hF167 (by kernel_rfl) rfl rfl rfl rfl (by kernel_rfl) hS169 (by kernel_rfl) (by kernel_rfl) (by kernel_rfl) (l':=[(50,nI x11),(49,.agg #[nI x49,nI x50,nI x51,nI x62,nI x63,nI x64,nI x65,nI x66,nI x67,nI x52]),(38,.bool false),(9,nI x68),(8,nP g48 0),(7,nI x11),(6,.slice p21 L10.length c22),(4,nB w)]) (by kernel_rfl) ?_
   intro w170 a171 hS172 hF173; clear hF167 hS169
   refine ev_runK 1 hF173 [4,5] (l':=[(5,nI x11),(4,nB w)]) (w':=w170) (by kernel_rfl) ?_
   intro a175 hF174; clear hF173
   refine wpList_nil ?_
   have hS176:=hS172.pick1.drop.pick1.drop
   clear hS172
   refine thenN ?_
   refine wp_ret ?_
   have hS177:=hS176.pick1
   clear hS176
   simp only [Option.some.injEq,Prod.mk.injEq] at hm164
   obtain ⟨rfl,rfl,rfl⟩:=hm164
   refine ev_retC hF174 _ [.agg #[nI x49,nI x50,nI x51,nI x62,nI x63,nI x64,nI x65,nI x66,nI x67,nI x52],nI x11] (.tuple #[.agg #[nI x49,nI x50,nI x51,nI x62,nI x63,nI x64,nI x65,nI x66,nI x67,nI x52],nI x11]) rfl ⟨⟨rfl,_,rfl,(run_loadA (cs:=[nI x49,nI x50,nI x51,nI x62,nI x63,nI x64,nI x65,nI x66,nI x67,nI x52]) rfl rfl (by kernel_rfl) (blk_cells hS177 1 rfl rfl))⟩,⟨rfl,rfl⟩,trivial⟩ rfl ?_
   have hS181:=hS177.pick1.drop
   clear hS177
   exact ⟨rfl,hS181⟩
 · skip
   obtain ⟨hc182,hm183⟩:=ifTE hm46; clear hm46
   obtain ⟨g184,rfl⟩:=hp23.resolve_left (by have:=inR_spec hc182; omega)
   obtain ⟨hc185,hm186⟩:=ifTE hm183; clear hm183
   obtain ⟨hc187,hm188⟩:=ifTE hm186; clear hm186
   obtain ⟨hc189,hm190⟩:=ifTE hm188; clear hm188
   have hS191:=hS17.pick1
   clear hS17
   have hS192:=hS191.drew; clear hS191
   refine any_start (fun wS=>∃ qs,St w0 F0 (RowP (nS g184 L10 c22) L10::qs) wS) 19 #[false,false,false,false,false,false,false,false,false,false,false,false,false,false,false,false,false,false,false] (by kernel_rfl) (by kernel_rfl) (by kernel_rfl) ?_
   refine any_many 12 [(0,some (nS g184 L10 c22)),(1,some (nP g184 ((0:Int).toNat))),(2,some (nI (atI L10 (0:Int)))),(4,some (nS g184 L10 c22)),(5,some (nP g184 ((1:Int).toNat))),(6,some (nI (atI L10 (1:Int)))),(8,some (nS g184 L10 c22)),(9,some (nP g184 ((2:Int).toNat))),(10,some (nI (atI L10 (2:Int)))),(12,some (nS g184 L10 c22)),(13,some (nP g184 ((9:Int).toNat))),(14,some (nI (atI L10 (9:Int))))] [4,6,7,8,22,23,26,27,30,31,34,35,36] #[true,true,true,false,true,true,true,false,true,true,true,false,true,true,true,false,false,false,false] (by rfl) hF47 (by kernel_rfl) (by kernel_rfl) (by exact ⟨fun wS hw=>by kernel_rfl,fun wS hw=>run_idx rfl rfl rfl rfl rfl (inR_spec hc182).1 (inR_spec hc182).2 _,fun wS hw=>run_load1 rfl rfl rfl (hw.elim fun qs hw=>hw.atI 0 rfl hc182),fun wS hw=>by kernel_rfl,fun wS hw=>run_idx rfl rfl rfl rfl rfl (inR_spec hc185).1 (inR_spec hc185).2 _,fun wS hw=>run_load1 rfl rfl rfl (hw.elim fun qs hw=>hw.atI 0 rfl hc185),fun wS hw=>by kernel_rfl,fun wS hw=>run_idx rfl rfl rfl rfl rfl (inR_spec hc187).1 (inR_spec hc187).2 _,fun wS hw=>run_load1 rfl rfl rfl (hw.elim fun qs hw=>hw.atI 0 rfl hc187),fun wS hw=>by kernel_rfl,fun wS hw=>run_idx rfl rfl rfl rfl rfl (inR_spec hc189).1 (inR_spec hc189).2 _,fun wS hw=>run_load1 rfl rfl rfl (hw.elim fun qs hw=>hw.atI 0 rfl hc189),trivial⟩) (fun _ _ _ _ _ h=>h) ⟨_,hS192⟩ (l':=[(34,nI (atI L10 (9:Int))),(30,nI (atI L10 (2:Int))),(26,nI (atI L10 (1:Int))),(22,nI (atI L10 (0:Int))),(7,nI x11),(6,nS g184 L10 c22),(4,nB w)]) (by kernel_rfl) ?_
   intro a194 hF193; clear hF47
   refine any_two 3 17 (by kernel_rfl) ?_ ?_
   · skip
     refine op_call 3 #[true,true,true,true,true,true,true,false,true,true,true,false,true,true,true,false,false,false,false] 121 #[nI (atI L10 (0:Int))] hF193 rfl rfl rfl (by kernel_rfl) rfl (by kernel_rfl) (fun w=>by kernel_rfl) (by kernel_rfl) ?_
     obtain ⟨x195,hx196,hm197⟩:=bind1E hm190; clear hm190
     refine (ref11_number.ok hS192 hx196).mono ?_
     rintro _ w198 ⟨rfl,hS200⟩; clear hS192
     refine ⟨⟨_,hS200⟩,?_⟩
     intro a199 hF201; clear hF193
     refine any_two 7 17 (by kernel_rfl) ?_ ?_
     · skip
       refine op_call 7 #[true,true,true,true,true,true,true,true,true,true,true,false,true,true,true,false,false,false,false] 121 #[nI (atI L10 (1:Int))] hF201 rfl rfl rfl (by kernel_rfl) rfl (by kernel_rfl) (fun w=>by kernel_rfl) (by kernel_rfl) ?_
       obtain ⟨x202,hx203,hm204⟩:=bind1E hm197; clear hm197
       refine (ref11_number.ok hS200 hx203).mono ?_
       rintro _ w205 ⟨rfl,hS207⟩; clear hS200
       refine ⟨⟨_,hS207⟩,?_⟩
       intro a206 hF208; clear hF201
       refine any_two 11 17 (by kernel_rfl) ?_ ?_
       · skip
         refine op_call 11 #[true,true,true,true,true,true,true,true,true,true,true,true,true,true,true,false,false,false,false] 121 #[nI (atI L10 (2:Int))] hF208 rfl rfl rfl (by kernel_rfl) rfl (by kernel_rfl) (fun w=>by kernel_rfl) (by kernel_rfl) ?_
         obtain ⟨x209,hx210,hm211⟩:=bind1E hm204; clear hm204
         refine (ref11_number.ok hS207 hx210).mono ?_
         rintro _ w212 ⟨rfl,hS214⟩; clear hS207
         refine ⟨⟨_,hS214⟩,?_⟩
         intro a213 hF215; clear hF208
         refine any_two 15 17 (by kernel_rfl) ?_ ?_
         · skip
           refine op_call 15 #[true,true,true,true,true,true,true,true,true,true,true,true,true,true,true,true,false,false,false] 122 #[nI (atI L10 (9:Int))] hF215 rfl rfl rfl (by kernel_rfl) rfl (by kernel_rfl) (fun w=>by kernel_rfl) (by kernel_rfl) ?_
           obtain ⟨x216,hx217,hm218⟩:=bind1E hm211; clear hm211
           refine (ref11_place.ok hS214 hx217).mono ?_
           rintro _ w219 ⟨rfl,hS221⟩; clear hS214
           refine ⟨⟨_,hS221⟩,?_⟩
           intro a220 hF222; clear hF215
           refine any_many 1 [(16,some (.agg #[nI x195,nI x202,nI x209,nI 0,nI 0,nI 0,nI 0,nI 0,nI 0,nI x216]))] [4,6,7,8,36] #[true,true,true,true,true,true,true,true,true,true,true,true,true,true,true,true,true,false,false] (by rfl) hF222 (by kernel_rfl) (by kernel_rfl) (by exact ⟨fun wS hw=>by kernel_rfl,trivial⟩) (fun _ _ _ _ _ h=>h) ⟨_,hS221⟩ (l':=[(36,.agg #[nI x195,nI x202,nI x209,nI 0,nI 0,nI 0,nI 0,nI 0,nI 0,nI x216]),(7,nI x11),(6,nS g184 L10 c22),(4,nB w)]) (by kernel_rfl) ?_
           intro a224 hF223; clear hF222
           refine any_one 17 (by kernel_rfl) ?_
           have hS225:St w0 F0 (BlkP (w219.heap.size) 28 #[nI 0,nI 0,nI 0,nI 0,nI 0,nI 0,nI 0,nI 0,nI 0,nI 0]::RowP (nS g184 L10 c22) L10::RHeapP b0 ab0 sb0 g0 cb0 s12::BlkP (w.heap.size) 28 #[nI 0,nI 0,nI 0,nI 0,nI 0,nI 0,nI 0,nI 0,nI 0,nI 0]::ps) (w219.alloc (.cells #[nI 0,nI 0,nI 0,nI 0,nI 0,nI 0,nI 0,nI 0,nI 0,nI 0] 28)):=St.new hS221 #[nI 0,nI 0,nI 0,nI 0,nI 0,nI 0,nI 0,nI 0,nI 0,nI 0] 28
           clear hS221
           refine op_step 17 #[true,true,true,true,true,true,true,true,true,true,true,true,true,true,true,true,true,true,false] (nB w219) (w219.alloc (.cells #[nI 0,nI 0,nI 0,nI 0,nI 0,nI 0,nI 0,nI 0,nI 0,nI 0] 28)) hF223 rfl (by kernel_rfl) rfl (by kernel_rfl) (by kernel_rfl) (l':=[(8,nB w219),(36,.agg #[nI x195,nI x202,nI x209,nI 0,nI 0,nI 0,nI 0,nI 0,nI 0,nI x216]),(7,nI x11),(6,nS g184 L10 c22),(4,nB w)]) (by kernel_rfl) ⟨_,hS225.pick1⟩ (by kernel_rfl) ?_
           intro a227 hF226; clear hF223
           refine any_one 18 (by kernel_rfl) ?_
           refine op_store 18 #[true,true,true,true,true,true,true,true,true,true,true,true,true,true,true,true,true,true,true] (.agg #[nI x195,nI x202,nI x209,nI 0,nI 0,nI 0,nI 0,nI 0,nI 0,nI x216]) #[nI x195,nI x202,nI x209,nI 0,nI 0,nI 0,nI 0,nI 0,nI 0,nI x216] hF226 rfl (by kernel_rfl) rfl rfl rfl rfl (by kernel_rfl) hS225 (by kernel_rfl) (by kernel_rfl) (by kernel_rfl) (l':=[(8,nB w219),(36,.agg #[nI x195,nI x202,nI x209,nI 0,nI 0,nI 0,nI 0,nI 0,nI 0,nI x216]),(7,nI x11),(6,nS g184 L10 c22),(4,nB w)]) (by kernel_rfl) (by kernel_rfl) ?_
           intro w228 a229 hS230 hF231; clear hF226 hS225
           refine ⟨⟨_,hS230.pick1⟩,?_⟩
           refine any_done (by kernel_rfl) ?_
           have hF232:=hF231.keep [4,6,7,8]
           clear hF231
           exact thenN ⟨(w219.heap.size),x195,x202,x209,x216,hF232,hS230,hm218⟩
         · skip
           have hS233:St w0 F0 (BlkP (w212.heap.size) 28 #[nI 0,nI 0,nI 0,nI 0,nI 0,nI 0,nI 0,nI 0,nI 0,nI 0]::RowP (nS g184 L10 c22) L10::RHeapP b0 ab0 sb0 g0 cb0 s12::BlkP (w.heap.size) 28 #[nI 0,nI 0,nI 0,nI 0,nI 0,nI 0,nI 0,nI 0,nI 0,nI 0]::ps) (w212.alloc (.cells #[nI 0,nI 0,nI 0,nI 0,nI 0,nI 0,nI 0,nI 0,nI 0,nI 0] 28)):=St.new hS214 #[nI 0,nI 0,nI 0,nI 0,nI 0,nI 0,nI 0,nI 0,nI 0,nI 0] 28
           clear hS214
           refine op_step 17 #[true,true,true,true,true,true,true,true,true,true,true,true,true,true,true,false,false,true,false] (nB w212) (w212.alloc (.cells #[nI 0,nI 0,nI 0,nI 0,nI 0,nI 0,nI 0,nI 0,nI 0,nI 0] 28)) hF215 rfl (by kernel_rfl) rfl (by kernel_rfl) (by kernel_rfl) (l':=[(8,nB w212),(31,nI x209),(27,nI x202),(23,nI x195),(34,nI (atI L10 (9:Int))),(30,nI (atI L10 (2:Int))),(26,nI (atI L10 (1:Int))),(22,nI (atI L10 (0:Int))),(7,nI x11),(6,nS g184 L10 c22),(4,nB w)]) (by kernel_rfl) ⟨_,hS233.pick1⟩ (by kernel_rfl) ?_
           intro a235 hF234; clear hF215
           refine any_call 15 #[true,true,true,true,true,true,true,true,true,true,true,true,true,true,true,true,false,true,false] 122 #[nI (atI L10 (9:Int))] hF234 rfl (by kernel_rfl) rfl rfl (by kernel_rfl) rfl (by kernel_rfl) (fun w=>by kernel_rfl) (by kernel_rfl) ?_
           obtain ⟨x236,hx237,hm238⟩:=bind1E hm211; clear hm211
           refine (ref11_place.ok hS233 hx237).mono ?_
           rintro _ w239 ⟨rfl,hS241⟩; clear hS233
           refine ⟨⟨_,hS241.pick1⟩,?_⟩
           intro a240 hF242; clear hF234
           refine any_many 1 [(16,some (.agg #[nI x195,nI x202,nI x209,nI 0,nI 0,nI 0,nI 0,nI 0,nI 0,nI x236]))] [4,6,7,8,36] #[true,true,true,true,true,true,true,true,true,true,true,true,true,true,true,true,true,true,false] (by rfl) hF242 (by kernel_rfl) (by kernel_rfl) (by exact ⟨fun wS hw=>by kernel_rfl,trivial⟩) (fun _ _ _ _ _ h=>h) ⟨_,hS241.pick1⟩ (l':=[(36,.agg #[nI x195,nI x202,nI x209,nI 0,nI 0,nI 0,nI 0,nI 0,nI 0,nI x236]),(8,nB w212),(7,nI x11),(6,nS g184 L10 c22),(4,nB w)]) (by kernel_rfl) ?_
           intro a244 hF243; clear hF242
           refine any_one 18 (by kernel_rfl) ?_
           refine op_store 18 #[true,true,true,true,true,true,true,true,true,true,true,true,true,true,true,true,true,true,true] (.agg #[nI x195,nI x202,nI x209,nI 0,nI 0,nI 0,nI 0,nI 0,nI 0,nI x236]) #[nI x195,nI x202,nI x209,nI 0,nI 0,nI 0,nI 0,nI 0,nI 0,nI x236] hF243 rfl (by kernel_rfl) rfl rfl rfl rfl (by kernel_rfl) hS241 (by kernel_rfl) (by kernel_rfl) (by kernel_rfl) (l':=[(36,.agg #[nI x195,nI x202,nI x209,nI 0,nI 0,nI 0,nI 0,nI 0,nI 0,nI x236]),(8,nB w212),(7,nI x11),(6,nS g184 L10 c22),(4,nB w)]) (by kernel_rfl) (by kernel_rfl) ?_
           intro w245 a246 hS247 hF248; clear hF243 hS241
           refine ⟨⟨_,hS247.pick1⟩,?_⟩
           refine any_done (by kernel_rfl) ?_
           have hF249:=hF248.keep [4,6,7,8]
           clear hF248
           exact thenN ⟨(w212.heap.size),x195,x202,x209,x236,hF249,hS247,hm238⟩
       · skip
         have hS250:St w0 F0 (BlkP (w205.heap.size) 28 #[nI 0,nI 0,nI 0,nI 0,nI 0,nI 0,nI 0,nI 0,nI 0,nI 0]::RowP (nS g184 L10 c22) L10::RHeapP b0 ab0 sb0 g0 cb0 s12::BlkP (w.heap.size) 28 #[nI 0,nI 0,nI 0,nI 0,nI 0,nI 0,nI 0,nI 0,nI 0,nI 0]::ps) (w205.alloc (.cells #[nI 0,nI 0,nI 0,nI 0,nI 0,nI 0,nI 0,nI 0,nI 0,nI 0] 28)):=St.new hS207 #[nI 0,nI 0,nI 0,nI 0,nI 0,nI 0,nI 0,nI 0,nI 0,nI 0] 28
         clear hS207
         refine op_step 17 #[true,true,true,true,true,true,true,true,true,true,true,false,true,true,true,false,false,true,false] (nB w205) (w205.alloc (.cells #[nI 0,nI 0,nI 0,nI 0,nI 0,nI 0,nI 0,nI 0,nI 0,nI 0] 28)) hF208 rfl (by kernel_rfl) rfl (by kernel_rfl) (by kernel_rfl) (l':=[(8,nB w205),(27,nI x202),(23,nI x195),(34,nI (atI L10 (9:Int))),(30,nI (atI L10 (2:Int))),(26,nI (atI L10 (1:Int))),(22,nI (atI L10 (0:Int))),(7,nI x11),(6,nS g184 L10 c22),(4,nB w)]) (by kernel_rfl) ⟨_,hS250.pick1⟩ (by kernel_rfl) ?_
         intro a252 hF251; clear hF208
         refine any_call 11 #[true,true,true,true,true,true,true,true,true,true,true,true,true,true,true,false,false,true,false] 121 #[nI (atI L10 (2:Int))] hF251 rfl (by kernel_rfl) rfl rfl (by kernel_rfl) rfl (by kernel_rfl) (fun w=>by kernel_rfl) (by kernel_rfl) ?_
         obtain ⟨x253,hx254,hm255⟩:=bind1E hm204; clear hm204
         refine (ref11_number.ok hS250 hx254).mono ?_
         rintro _ w256 ⟨rfl,hS258⟩; clear hS250
         refine ⟨⟨_,hS258.pick1⟩,?_⟩
         intro a257 hF259; clear hF251
         refine any_call 15 #[true,true,true,true,true,true,true,true,true,true,true,true,true,true,true,true,false,true,false] 122 #[nI (atI L10 (9:Int))] hF259 rfl (by kernel_rfl) rfl rfl (by kernel_rfl) rfl (by kernel_rfl) (fun w=>by kernel_rfl) (by kernel_rfl) ?_
         obtain ⟨x260,hx261,hm262⟩:=bind1E hm255; clear hm255
         refine (ref11_place.ok hS258 hx261).mono ?_
         rintro _ w263 ⟨rfl,hS265⟩; clear hS258
         refine ⟨⟨_,hS265.pick1⟩,?_⟩
         intro a264 hF266; clear hF259
         refine any_many 1 [(16,some (.agg #[nI x195,nI x202,nI x253,nI 0,nI 0,nI 0,nI 0,nI 0,nI 0,nI x260]))] [4,6,7,8,36] #[true,true,true,true,true,true,true,true,true,true,true,true,true,true,true,true,true,true,false] (by rfl) hF266 (by kernel_rfl) (by kernel_rfl) (by exact ⟨fun wS hw=>by kernel_rfl,trivial⟩) (fun _ _ _ _ _ h=>h) ⟨_,hS265.pick1⟩ (l':=[(36,.agg #[nI x195,nI x202,nI x253,nI 0,nI 0,nI 0,nI 0,nI 0,nI 0,nI x260]),(8,nB w205),(7,nI x11),(6,nS g184 L10 c22),(4,nB w)]) (by kernel_rfl) ?_
         intro a268 hF267; clear hF266
         refine any_one 18 (by kernel_rfl) ?_
         refine op_store 18 #[true,true,true,true,true,true,true,true,true,true,true,true,true,true,true,true,true,true,true] (.agg #[nI x195,nI x202,nI x253,nI 0,nI 0,nI 0,nI 0,nI 0,nI 0,nI x260]) #[nI x195,nI x202,nI x253,nI 0,nI 0,nI 0,nI 0,nI 0,nI 0,nI x260] hF267 rfl (by kernel_rfl) rfl rfl rfl rfl (by kernel_rfl) hS265 (by kernel_rfl) (by kernel_rfl) (by kernel_rfl) (l':=[(36,.agg #[nI x195,nI x202,nI x253,nI 0,nI 0,nI 0,nI 0,nI 0,nI 0,nI x260]),(8,nB w205),(7,nI x11),(6,nS g184 L10 c22),(4,nB w)]) (by kernel_rfl) (by kernel_rfl) ?_
         intro w269 a270 hS271 hF272; clear hF267 hS265
         refine ⟨⟨_,hS271.pick1⟩,?_⟩
         refine any_done (by kernel_rfl) ?_
         have hF273:=hF272.keep [4,6,7,8]
         clear hF272
         exact thenN ⟨(w205.heap.size),x195,x202,x253,x260,hF273,hS271,hm262⟩
     · skip
       have hS274:St w0 F0 (BlkP (w198.heap.size) 28 #[nI 0,nI 0,nI 0,nI 0,nI 0,nI 0,nI 0,nI 0,nI 0,nI 0]::RowP (nS g184 L10 c22) L10::RHeapP b0 ab0 sb0 g0 cb0 s12::BlkP (w.heap.size) 28 #[nI 0,nI 0,nI 0,nI 0,nI 0,nI 0,nI 0,nI 0,nI 0,nI 0]::ps) (w198.alloc (.cells #[nI 0,nI 0,nI 0,nI 0,nI 0,nI 0,nI 0,nI 0,nI 0,nI 0] 28)):=St.new hS200 #[nI 0,nI 0,nI 0,nI 0,nI 0,nI 0,nI 0,nI 0,nI 0,nI 0] 28
       clear hS200
       refine op_step 17 #[true,true,true,true,true,true,true,false,true,true,true,false,true,true,true,false,false,true,false] (nB w198) (w198.alloc (.cells #[nI 0,nI 0,nI 0,nI 0,nI 0,nI 0,nI 0,nI 0,nI 0,nI 0] 28)) hF201 rfl (by kernel_rfl) rfl (by kernel_rfl) (by kernel_rfl) (l':=[(8,nB w198),(23,nI x195),(34,nI (atI L10 (9:Int))),(30,nI (atI L10 (2:Int))),(26,nI (atI L10 (1:Int))),(22,nI (atI L10 (0:Int))),(7,nI x11),(6,nS g184 L10 c22),(4,nB w)]) (by kernel_rfl) ⟨_,hS274.pick1⟩ (by kernel_rfl) ?_
       intro a276 hF275; clear hF201
       refine any_call 7 #[true,true,true,true,true,true,true,true,true,true,true,false,true,true,true,false,false,true,false] 121 #[nI (atI L10 (1:Int))] hF275 rfl (by kernel_rfl) rfl rfl (by kernel_rfl) rfl (by kernel_rfl) (fun w=>by kernel_rfl) (by kernel_rfl) ?_
       obtain ⟨x277,hx278,hm279⟩:=bind1E hm197; clear hm197
       refine (ref11_number.ok hS274 hx278).mono ?_
       rintro _ w280 ⟨rfl,hS282⟩; clear hS274
       refine ⟨⟨_,hS282.pick1⟩,?_⟩
       intro a281 hF283; clear hF275
       refine any_call 11 #[true,true,true,true,true,true,true,true,true,true,true,true,true,true,true,false,false,true,false] 121 #[nI (atI L10 (2:Int))] hF283 rfl (by kernel_rfl) rfl rfl (by kernel_rfl) rfl (by kernel_rfl) (fun w=>by kernel_rfl) (by kernel_rfl) ?_
       obtain ⟨x284,hx285,hm286⟩:=bind1E hm279; clear hm279
       refine (ref11_number.ok hS282 hx285).mono ?_
       rintro _ w287 ⟨rfl,hS289⟩; clear hS282
       refine ⟨⟨_,hS289.pick1⟩,?_⟩
       intro a288 hF290; clear hF283
       refine any_call 15 #[true,true,true,true,true,true,true,true,true,true,true,true,true,true,true,true,false,true,false] 122 #[nI (atI L10 (9:Int))] hF290 rfl (by kernel_rfl) rfl rfl (by kernel_rfl) rfl (by kernel_rfl) (fun w=>by kernel_rfl) (by kernel_rfl) ?_
       obtain ⟨x291,hx292,hm293⟩:=bind1E hm286; clear hm286
       refine (ref11_place.ok hS289 hx292).mono ?_
       rintro _ w294 ⟨rfl,hS296⟩; clear hS289
       refine ⟨⟨_,hS296.pick1⟩,?_⟩
       intro a295 hF297; clear hF290
       refine any_many 1 [(16,some (.agg #[nI x195,nI x277,nI x284,nI 0,nI 0,nI 0,nI 0,nI 0,nI 0,nI x291]))] [4,6,7,8,36] #[true,true,true,true,true,true,true,true,true,true,true,true,true,true,true,true,true,true,false] (by rfl) hF297 (by kernel_rfl) (by kernel_rfl) (by exact ⟨fun wS hw=>by kernel_rfl,trivial⟩) (fun _ _ _ _ _ h=>h) ⟨_,hS296.pick1⟩ (l':=[(36,.agg #[nI x195,nI x277,nI x284,nI 0,nI 0,nI 0,nI 0,nI 0,nI 0,nI x291]),(8,nB w198),(7,nI x11),(6,nS g184 L10 c22),(4,nB w)]) (by kernel_rfl) ?_
       intro a299 hF298; clear hF297
       refine any_one 18 (by kernel_rfl) ?_
       refine op_store 18 #[true,true,true,true,true,true,true,true,true,true,true,true,true,true,true,true,true,true,true] (.agg #[nI x195,nI x277,nI x284,nI 0,nI 0,nI 0,nI 0,nI 0,nI 0,nI x291]) #[nI x195,nI x277,nI x284,nI 0,nI 0,nI 0,nI 0,nI 0,nI 0,nI x291] hF298 rfl (by kernel_rfl) rfl rfl rfl rfl (by kernel_rfl) hS296 (by kernel_rfl) (by kernel_rfl) (by kernel_rfl) (l':=[(36,.agg #[nI x195,nI x277,nI x284,nI 0,nI 0,nI 0,nI 0,nI 0,nI 0,nI x291]),(8,nB w198),(7,nI x11),(6,nS g184 L10 c22),(4,nB w)]) (by kernel_rfl) (by kernel_rfl) ?_
       intro w300 a301 hS302 hF303; clear hF298 hS296
       refine ⟨⟨_,hS302.pick1⟩,?_⟩
       refine any_done (by kernel_rfl) ?_
       have hF304:=hF303.keep [4,6,7,8]
       clear hF303
       exact thenN ⟨(w198.heap.size),x195,x277,x284,x291,hF304,hS302,hm293⟩
   · skip
     have hS305:St w0 F0 (BlkP ((w15.drew).heap.size) 28 #[nI 0,nI 0,nI 0,nI 0,nI 0,nI 0,nI 0,nI 0,nI 0,nI 0]::RowP (nS g184 L10 c22) L10::RHeapP b0 ab0 sb0 g0 cb0 s12::BlkP (w.heap.size) 28 #[nI 0,nI 0,nI 0,nI 0,nI 0,nI 0,nI 0,nI 0,nI 0,nI 0]::ps) ((w15.drew).alloc (.cells #[nI 0,nI 0,nI 0,nI 0,nI 0,nI 0,nI 0,nI 0,nI 0,nI 0] 28)):=St.new hS192 #[nI 0,nI 0,nI 0,nI 0,nI 0,nI 0,nI 0,nI 0,nI 0,nI 0] 28
     clear hS192
     refine op_step 17 #[true,true,true,false,true,true,true,false,true,true,true,false,true,true,true,false,false,true,false] (nB (w15.drew)) ((w15.drew).alloc (.cells #[nI 0,nI 0,nI 0,nI 0,nI 0,nI 0,nI 0,nI 0,nI 0,nI 0] 28)) hF193 rfl (by kernel_rfl) rfl (by kernel_rfl) (by kernel_rfl) (l':=[(8,nB (w15.drew)),(34,nI (atI L10 (9:Int))),(30,nI (atI L10 (2:Int))),(26,nI (atI L10 (1:Int))),(22,nI (atI L10 (0:Int))),(7,nI x11),(6,nS g184 L10 c22),(4,nB w)]) (by kernel_rfl) ⟨_,hS305.pick1⟩ (by kernel_rfl) ?_
     intro a307 hF306; clear hF193
     refine any_call 3 #[true,true,true,true,true,true,true,false,true,true,true,false,true,true,true,false,false,true,false] 121 #[nI (atI L10 (0:Int))] hF306 rfl (by kernel_rfl) rfl rfl (by kernel_rfl) rfl (by kernel_rfl) (fun w=>by kernel_rfl) (by kernel_rfl) ?_
     obtain ⟨x308,hx309,hm310⟩:=bind1E hm190; clear hm190
     refine (ref11_number.ok hS305 hx309).mono ?_
     rintro _ w311 ⟨rfl,hS313⟩; clear hS305
     refine ⟨⟨_,hS313.pick1⟩,?_⟩
     intro a312 hF314; clear hF306
     refine any_call 7 #[true,true,true,true,true,true,true,true,true,true,true,false,true,true,true,false,false,true,false] 121 #[nI (atI L10 (1:Int))] hF314 rfl (by kernel_rfl) rfl rfl (by kernel_rfl) rfl (by kernel_rfl) (fun w=>by kernel_rfl) (by kernel_rfl) ?_
     obtain ⟨x315,hx316,hm317⟩:=bind1E hm310; clear hm310
     refine (ref11_number.ok hS313 hx316).mono ?_
     rintro _ w318 ⟨rfl,hS320⟩; clear hS313
     refine ⟨⟨_,hS320.pick1⟩,?_⟩
     intro a319 hF321; clear hF314
     refine any_call 11 #[true,true,true,true,true,true,true,true,true,true,true,true,true,true,true,false,false,true,false] 121 #[nI (atI L10 (2:Int))] hF321 rfl (by kernel_rfl) rfl rfl (by kernel_rfl) rfl (by kernel_rfl) (fun w=>by kernel_rfl) (by kernel_rfl) ?_
     obtain ⟨x322,hx323,hm324⟩:=bind1E hm317; clear hm317
     refine (ref11_number.ok hS320 hx323).mono ?_
     rintro _ w325 ⟨rfl,hS327⟩; clear hS320
     refine ⟨⟨_,hS327.pick1⟩,?_⟩
     intro a326 hF328; clear hF321
     refine any_call 15 #[true,true,true,true,true,true,true,true,true,true,true,true,true,true,true,true,false,true,false] 122 #[nI (atI L10 (9:Int))] hF328 rfl (by kernel_rfl) rfl rfl (by kernel_rfl) rfl (by kernel_rfl) (fun w=>by kernel_rfl) (by kernel_rfl) ?_
     obtain ⟨x329,hx330,hm331⟩:=bind1E hm324; clear hm324
     refine (ref11_place.ok hS327 hx330).mono ?_
     rintro _ w332 ⟨rfl,hS334⟩; clear hS327
     refine ⟨⟨_,hS334.pick1⟩,?_⟩
     intro a333 hF335; clear hF328
     refine any_many 1 [(16,some (.agg #[nI x308,nI x315,nI x322,nI 0,nI 0,nI 0,nI 0,nI 0,nI 0,nI x329]))] [4,6,7,8,36] #[true,true,true,true,true,true,true,true,true,true,true,true,true,true,true,true,true,true,false] (by rfl) hF335 (by kernel_rfl) (by kernel_rfl) (by exact ⟨fun wS hw=>by kernel_rfl,trivial⟩) (fun _ _ _ _ _ h=>h) ⟨_,hS334.pick1⟩ (l':=[(36,.agg #[nI x308,nI x315,nI x322,nI 0,nI 0,nI 0,nI 0,nI 0,nI 0,nI x329]),(8,nB (w15.drew)),(7,nI x11),(6,nS g184 L10 c22),(4,nB w)]) (by kernel_rfl) ?_
     intro a337 hF336; clear hF335
     refine any_one 18 (by kernel_rfl) ?_
     refine op_store 18 #[true,true,true,true,true,true,true,true,true,true,true,true,true,true,true,true,true,true,true] (.agg #[nI x308,nI x315,nI x322,nI 0,nI 0,nI 0,nI 0,nI 0,nI 0,nI x329]) #[nI x308,nI x315,nI x322,nI 0,nI 0,nI 0,nI 0,nI 0,nI 0,nI x329] hF336 rfl (by kernel_rfl) rfl rfl rfl rfl (by kernel_rfl) hS334 (by kernel_rfl) (by kernel_rfl) (by kernel_rfl) (l':=[(36,.agg #[nI x308,nI x315,nI x322,nI 0,nI 0,nI 0,nI 0,nI 0,nI 0,nI x329]),(8,nB (w15.drew)),(7,nI x11),(6,nS g184 L10 c22),(4,nB w)]) (by kernel_rfl) (by kernel_rfl) ?_
     intro w338 a339 hS340 hF341; clear hF336 hS334
     refine ⟨⟨_,hS340.pick1⟩,?_⟩
     refine any_done (by kernel_rfl) ?_
     have hF342:=hF341.keep [4,6,7,8]
     clear hF341
     exact thenN ⟨((w15.drew).heap.size),x308,x315,x322,x329,hF342,hS340,hm331⟩
end Go.Proofs.YtffnjpapggidlaaGreat
