/- GHelp -/
import Derived.Test.YtffnjpapggidlaaKPrim
import Derived.Test.YtffnjpapggidlaaKEv2
import Derived.Test.YtffnjpapggidlaaKEvMap
import Derived.Test.YtffnjpapggidlaaKRowB
import Derived.Test.YtffnjpapggidlaaKArgK
import Derived.Test.YtffnjpapggidlaaKAppM
import Derived.Test.YtffnjpapggidlaaKMem
import Derived.Deep.LoopGhost
import Derived.KernelRfl
namespace Go.Proofs.Ytffnjpapggidlaa
open Go.RowKit
set_option linter.unusedVariables false
def help_In.l1b (L0:List Int) (i1:Int) (rec12:Int→Option (Bool)) (x9:Int):Option (Bool):=(if (decide (x9<(L0.length:Int))) then (if (inR x9 L0.length) then (if ((atI L0 x9) == i1) then some (true) else rec12 (IntKind.i64.wrap (x9+1))) else none) else some (false))
def help_In.l1 (L0:List Int) (i1:Int):Nat→Int→Option (Bool)
  | 0=>fun _=>none
  | kI+1=>help_In.l1b L0 i1 (help_In.l1 L0 i1 kI)
def help_In.m (k:Nat) (L0:List Int) (i1:Int):Option (Bool):=help_In.l1 L0 i1 k 0
set_option maxRecDepth 100000 in
set_option maxHeartbeats 1500000 in
theorem help_In.ok {w0 w:World} {F0:List Nat} {ps:List Piece} {k:Nat} {v0:Value} {L0:List Int} {i1:Int} {r0:Bool} (hS:St w0 F0 (RowP (v0) L0::ps) w) (hm:help_In.m k L0 i1=some r0) :
    Calls Try.prog 47 #[v0,nI i1] w fun e w'=>e=.returned (.bool r0)∧St w0 F0 (RowP (v0) L0::ps) w':=by
 refine ev_enterL 18 [v0,nI i1] Try.func47 rfl rfl (by simp) ?_
 intro a hF
 have hF0:Fr 18 a [(0,v0),(1,nI i1)]:=hF; clear hF
 unfold help_In.m at hm
 obtain ⟨hl4,p1,c2,rfl,hp3⟩:=St.shape hS 0 rfl
 refine wp_seq (wp_region_lit ?_)
 refine ev_runK 1 hF0 [0,1] (l':=[(0,.slice p1 L0.length c2),(1,nI i1)]) (w':=w) (by kernel_rfl) ?_
 intro a6 hF5; clear hF0
 refine wpList_nil (thenN (wp_seq (wp_seq (wp_region_lit ?_))))
 refine ev_runs 1 hF5 (l':=[(5,nI 0),(0,.slice p1 L0.length c2),(1,nI i1)]) (w':=w) (by kernel_rfl) ?_
 intro a8 hF7; clear hF5
 refine wpList_nil (thenN ?_)
 refine wp_block ?_
 refine wp_loop_ghost (fun kI aI wI=>∃ (x9:Int),Fr 18 aI [(5,nI x9),(0,.slice p1 L0.length c2),(1,nI i1)]∧St w0 F0 (RowP (.slice p1 L0.length c2) L0::ps) wI∧help_In.l1 L0 i1 kI x9=some r0) k ⟨0,hF7,hS,hm⟩ ?_
 rintro k10 a11 w12 ⟨x9,hF13,hS14,hm15⟩
 clear hF7 hS hm
 rcases k10 with _ | k10
 · cases hm15
 have hm16:help_In.l1b L0 i1 (help_In.l1 L0 i1 k10) x9=some r0:=hm15
 clear hm15
 unfold help_In.l1b at hm16
 refine wp_seq (wp_seq (wp_region_lit ?_))
 refine ev_runK 4 hF13 [0,1,5,9] (l':=[(9,.bool (decide (x9<(L0.length:Int)))),(5,nI x9),(0,.slice p1 L0.length c2),(1,nI i1)]) (w':=w12) (by kernel_rfl) ?_
 intro a18 hF17; clear hF13
 refine wpList_nil (thenN ?_)
 cases hc19:(decide (x9<(L0.length:Int)))
 case true =>
  rw [hc19] at hF17
  have hm20:=ifYes hc19 hm16; clear hm16
  refine ev_condT hF17 rfl rfl ?_
  refine wp_skip ?_
  have hF21:=hF17.keep [0,1,5]
  clear hF17
  refine thenN (wp_seq ?_)
  refine wp_block ?_
  refine wp_seq (wp_region_lit ?_)
  refine ev_runs 2 hF21 (l':=[(13,nI x9),(12,.slice p1 L0.length c2),(5,nI x9),(0,.slice p1 L0.length c2),(1,nI i1)]) (w':=w12) (by kernel_rfl) ?_
  intro a23 hF22; clear hF21
  obtain ⟨hc24,hm25⟩:=ifTE hm20; clear hm20
  obtain ⟨g26,rfl⟩:=hp3.resolve_left (by have:=inR_spec hc24; omega)
  refine ev_one (nP g26 (x9.toNat)) w12 hF22 (by kernel_rfl) rfl (by kernel_rfl) (run_idx rfl rfl rfl rfl rfl (inR_spec hc24).1 (inR_spec hc24).2 _) (l':=[(14,nP g26 (x9.toNat)),(13,nI x9),(12,nS g26 L0 c2),(5,nI x9),(0,nS g26 L0 c2),(1,nI i1)]) (by kernel_rfl) ?_
  intro a28 hF27; clear hF22
  refine ev_one (nI (atI L0 x9)) w12 hF27 (by kernel_rfl) rfl (by kernel_rfl) (run_load1 rfl rfl rfl (hS14.atI 0 rfl hc24)) (l':=[(15,nI (atI L0 x9)),(14,nP g26 (x9.toNat)),(13,nI x9),(12,nS g26 L0 c2),(5,nI x9),(0,nS g26 L0 c2),(1,nI i1)]) (by kernel_rfl) ?_
  intro a30 hF29; clear hF27
  refine ev_runK 2 hF29 [0,1,5,17] (l':=[(17,.bool ((atI L0 x9) == i1)),(5,nI x9),(0,nS g26 L0 c2),(1,nI i1)]) (w':=w12) (by kernel_rfl) ?_
  intro a32 hF31; clear hF29
  refine wpList_nil (thenN ?_)
  cases hc33:((atI L0 x9) == i1)
  case true =>
   rw [hc33] at hF31
   have hm34:=ifYes hc33 hm25; clear hm25
   refine ev_condT hF31 rfl rfl ?_
   refine wp_seq (wp_region_lit ?_)
   refine ev_runK 1 hF31 [4] (l':=[(4,.bool true)]) (w':=w12) (by kernel_rfl) ?_
   intro a36 hF35; clear hF31
   refine wpList_nil (thenN ?_)
   refine wp_ret ?_
   refine blockR ?_
   refine thenR (thenR ?_)
   refine blockR ?_
   refine thenR ?_
   obtain rfl:=Option.some.inj hm34
   refine ev_ret hF35 [4] (.bool true) rfl rfl rfl ?_
   exact ⟨rfl,hS14⟩
  rw [hc33] at hF31
  have hm38:=ifNot hc33 hm25; clear hm25
  refine ev_condF hF31 rfl rfl ?_
  refine wp_skip ?_
  have hF39:=hF31.keep [0,1,5]
  clear hF31
  refine blockN ?_
  refine thenN (wp_region_lit ?_)
  refine ev_runK 3 hF39 [0,1,5] (l':=[(5,nI (IntKind.i64.wrap (x9+1))),(0,nS g26 L0 c2),(1,nI i1)]) (w':=w12) (by kernel_rfl) ?_
  intro a41 hF40; clear hF39
  refine wpList_nil ?_
  exact thenN ⟨k10,Nat.lt_succ_self _,IntKind.i64.wrap (x9+1),hF40,hS14,hm38⟩
 rw [hc19] at hF17
 have hm42:=ifNot hc19 hm16; clear hm16
 refine ev_condF hF17 rfl rfl ?_
 refine wp_exit ?_
 refine thenE ?_
 refine thenE ?_
 refine blockE ?_
 refine thenN (wp_seq (wp_region_lit ?_))
 refine ev_runK 1 hF17 [4] (l':=[(4,.bool false)]) (w':=w12) (by kernel_rfl) ?_
 intro a44 hF43; clear hF17
 refine wpList_nil (thenN ?_)
 refine wp_ret ?_
 obtain rfl:=Option.some.inj hm42
 refine ev_ret hF43 [4] (.bool false) rfl rfl rfl ?_
 exact ⟨rfl,hS14⟩
def help_eq.m (k:Nat) (i0:Int) (i1:Int):Option (Bool):=some (i0 == i1)
set_option maxRecDepth 100000 in
set_option maxHeartbeats 1500000 in
theorem help_eq.ok {w0 w:World} {F0:List Nat} {ps:List Piece} {k:Nat} {i0:Int} {i1:Int} {r0:Bool} (hS:St w0 F0 (ps) w) (hm:help_eq.m k i0 i1=some r0) :
    Calls Try.prog 66 #[nI i0,nI i1] w fun e w'=>e=.returned (.bool r0)∧St w0 F0 (ps) w':=by
 refine ev_enterL 8 [nI i0,nI i1] Try.func66 rfl rfl (by simp) ?_
 intro a hF
 have hF0:Fr 8 a [(0,nI i0),(1,nI i1)]:=hF; clear hF
 unfold help_eq.m at hm
 refine wp_seq (wp_region_lit ?_)
 refine ev_runK 1 hF0 [0,1] (l':=[(0,nI i0),(1,nI i1)]) (w':=w) (by kernel_rfl) ?_
 intro a2 hF1; clear hF0
 refine wpList_nil (thenN (wp_seq (wp_region_lit ?_)))
 refine ev_runK 4 hF1 [4] (l':=[(4,.bool (i0 == i1))]) (w':=w) (by kernel_rfl) ?_
 intro a4 hF3; clear hF1
 refine wpList_nil (thenN ?_)
 refine wp_ret ?_
 obtain rfl:=Option.some.inj hm
 refine ev_ret hF3 [4] (.bool (i0 == i1)) rfl rfl rfl ?_
 exact ⟨rfl,hS⟩
def help_Same.l1b (L0:List Int) (L1:List Int) (k:Nat) (rec25:Int→Option (Bool)) (x22:Int):Option (Bool):=(if (decide (x22<(L0.length:Int))) then (if (inR x22 L0.length) then (if (inR x22 L1.length) then bind1 (help_eq.m k (atI L0 x22) (atI L1 x22)) fun y44=>(if (!(y44)) then some (false) else rec25 (IntKind.i64.wrap (x22+1))) else none) else none) else some (true))
def help_Same.l1 (L0:List Int) (L1:List Int) (k:Nat):Nat→Int→Option (Bool)
  | 0=>fun _=>none
  | kI+1=>help_Same.l1b L0 L1 k (help_Same.l1 L0 L1 k kI)
def help_Same.m (k:Nat) (L0:List Int) (L1:List Int):Option (Bool):=(if ((L0.length:Int) != (L1.length:Int)) then some (false) else help_Same.l1 L0 L1 k k 0)
set_option maxRecDepth 100000 in
set_option maxHeartbeats 1500000 in
theorem help_Same.ok {w0 w:World} {F0:List Nat} {ps:List Piece} {k:Nat} {v0:Value} {L0:List Int} {v1:Value} {L1:List Int} {r0:Bool} (hS:St w0 F0 (RowP (v0) L0::RowP (v1) L1::ps) w) (hm:help_Same.m k L0 L1=some r0) :
    Calls Try.prog 65 #[v0,v1,.func (.func 66) #[] #[]] w fun e w'=>e=.returned (.bool r0)∧St w0 F0 (RowP (v0) L0::RowP (v1) L1::ps) w':=by
 refine ev_enterL 30 [v0,v1,.func (.func 66) #[] #[]] Try.func65 rfl rfl (by simp) ?_
 intro a hF
 have hF0:Fr 30 a [(0,v0),(1,v1),(2,.func (.func 66) #[] #[])]:=hF; clear hF
 unfold help_Same.m at hm
 obtain ⟨hl4,p1,c2,rfl,hp3⟩:=St.shape hS 0 rfl
 obtain ⟨hl8,p5,c6,rfl,hp7⟩:=St.shape hS 1 rfl
 refine wp_seq (wp_region_lit ?_)
 refine ev_runK 1 hF0 [0,1,2] (l':=[(0,.slice p1 L0.length c2),(1,.slice p5 L1.length c6),(2,.func (.func 66) #[] #[])]) (w':=w) (by kernel_rfl) ?_
 intro a10 hF9; clear hF0
 refine wpList_nil (thenN (wp_seq (wp_seq (wp_region_lit ?_))))
 refine ev_runK 5 hF9 [0,1,2,12] (l':=[(12,.bool ((L0.length:Int) != (L1.length:Int))),(0,.slice p1 L0.length c2),(1,.slice p5 L1.length c6),(2,.func (.func 66) #[] #[])]) (w':=w) (by kernel_rfl) ?_
 intro a12 hF11; clear hF9
 refine wpList_nil (thenN ?_)
 cases hc13:((L0.length:Int) != (L1.length:Int))
 case true =>
  rw [hc13] at hF11
  have hm14:=ifYes hc13 hm; clear hm
  refine ev_condT hF11 rfl rfl ?_
  refine wp_seq (wp_region_lit ?_)
  refine ev_runK 1 hF11 [6] (l':=[(6,.bool false)]) (w':=w) (by kernel_rfl) ?_
  intro a16 hF15; clear hF11
  refine wpList_nil (thenN ?_)
  refine wp_ret ?_
  refine thenR ?_
  obtain rfl:=Option.some.inj hm14
  refine ev_ret hF15 [6] (.bool false) rfl rfl rfl ?_
  exact ⟨rfl,hS⟩
 rw [hc13] at hF11
 have hm18:=ifNot hc13 hm; clear hm
 refine ev_condF hF11 rfl rfl ?_
 refine wp_skip ?_
 have hF19:=hF11.keep [0,1,2]
 clear hF11
 refine thenN (wp_seq (wp_seq (wp_region_lit ?_)))
 refine ev_runs 1 hF19 (l':=[(7,nI 0),(0,.slice p1 L0.length c2),(1,.slice p5 L1.length c6),(2,.func (.func 66) #[] #[])]) (w':=w) (by kernel_rfl) ?_
 intro a21 hF20; clear hF19
 refine wpList_nil (thenN ?_)
 refine wp_block ?_
 refine wp_loop_ghost (fun kI aI wI=>∃ (x22:Int),Fr 30 aI [(7,nI x22),(0,.slice p1 L0.length c2),(1,.slice p5 L1.length c6),(2,.func (.func 66) #[] #[])]∧St w0 F0 (RowP (.slice p1 L0.length c2) L0::RowP (.slice p5 L1.length c6) L1::ps) wI∧help_Same.l1 L0 L1 k kI x22=some r0) k ⟨0,hF20,hS,hm18⟩ ?_
 rintro k23 a24 w25 ⟨x22,hF26,hS27,hm28⟩
 clear hF20 hS hm18
 rcases k23 with _ | k23
 · cases hm28
 have hm29:help_Same.l1b L0 L1 k (help_Same.l1 L0 L1 k k23) x22=some r0:=hm28
 clear hm28
 unfold help_Same.l1b at hm29
 refine wp_seq (wp_seq (wp_region_lit ?_))
 refine ev_runK 4 hF26 [0,1,2,7,16] (l':=[(16,.bool (decide (x22<(L0.length:Int)))),(7,nI x22),(0,.slice p1 L0.length c2),(1,.slice p5 L1.length c6),(2,.func (.func 66) #[] #[])]) (w':=w25) (by kernel_rfl) ?_
 intro a31 hF30; clear hF26
 refine wpList_nil (thenN ?_)
 cases hc32:(decide (x22<(L0.length:Int)))
 case true =>
  rw [hc32] at hF30
  have hm33:=ifYes hc32 hm29; clear hm29
  refine ev_condT hF30 rfl rfl ?_
  refine wp_skip ?_
  have hF34:=hF30.keep [0,1,2,7]
  clear hF30
  refine thenN (wp_seq ?_)
  refine wp_block ?_
  refine wp_seq ?_
  obtain ⟨hc35,hm36⟩:=ifTE hm33; clear hm33
  obtain ⟨g37,rfl⟩:=hp3.resolve_left (by have:=inR_spec hc35; omega)
  obtain ⟨hc38,hm39⟩:=ifTE hm36; clear hm36
  obtain ⟨g40,rfl⟩:=hp7.resolve_left (by have:=inR_spec hc38; omega)
  have hS41:=hS27.drew; clear hS27
  refine any_start (fun wS=>∃ qs,St w0 F0 (RowP (nS g37 L0 c2) L0::RowP (nS g40 L1 c6) L1::qs) wS) 11 #[false,false,false,false,false,false,false,false,false,false,false] (by kernel_rfl) (by kernel_rfl) (by kernel_rfl) ?_
  refine any_many 9 [(0,some (.func (.func 66) #[] #[])),(1,some (nS g37 L0 c2)),(2,some (nI x22)),(3,some (nP g37 (x22.toNat))),(4,some (nI (atI L0 x22))),(5,some (nS g40 L1 c6)),(6,some (nI x22)),(7,some (nP g40 (x22.toNat))),(8,some (nI (atI L1 x22)))] [0,1,2,7,19,23,27,28,29] #[true,true,true,true,true,true,true,true,true,false,false] (by rfl) hF34 (by kernel_rfl) (by kernel_rfl) (by exact ⟨fun wS hw=>by kernel_rfl,fun wS hw=>by kernel_rfl,fun wS hw=>by kernel_rfl,fun wS hw=>run_idx rfl rfl rfl rfl rfl (inR_spec hc35).1 (inR_spec hc35).2 _,fun wS hw=>run_load1 rfl rfl rfl (hw.elim fun qs hw=>hw.atI 0 rfl hc35),fun wS hw=>by kernel_rfl,fun wS hw=>by kernel_rfl,fun wS hw=>run_idx rfl rfl rfl rfl rfl (inR_spec hc38).1 (inR_spec hc38).2 _,fun wS hw=>run_load1 rfl rfl rfl (hw.elim fun qs hw=>hw.atI 1 rfl hc38),trivial⟩) (fun _ _ _ _ _ h=>h) ⟨_,hS41⟩ (l':=[(27,nI (atI L1 x22)),(23,nI (atI L0 x22)),(19,.func (.func 66) #[] #[]),(7,nI x22),(0,nS g37 L0 c2),(1,nS g40 L1 c6),(2,.func (.func 66) #[] #[])]) (by kernel_rfl) ?_
  intro a43 hF42; clear hF34
  refine any_call 9 #[true,true,true,true,true,true,true,true,true,true,false] 66 #[nI (atI L0 x22),nI (atI L1 x22)] hF42 rfl (by kernel_rfl) rfl rfl (by kernel_rfl) rfl (by kernel_rfl) (fun w=>by kernel_rfl) (by kernel_rfl) ?_
  obtain ⟨y44,hx45,hm46⟩:=bind1E hm39; clear hm39
  refine (help_eq.ok hS41 hx45).mono ?_
  rintro _ w47 ⟨rfl,hS49⟩; clear hS41
  refine ⟨⟨_,hS49⟩,?_⟩
  intro a48 hF50; clear hF42
  refine any_many 1 [(10,some (.bool (!(y44))))] [0,1,2,7,29] #[true,true,true,true,true,true,true,true,true,true,true] (by rfl) hF50 (by kernel_rfl) (by kernel_rfl) (by exact ⟨fun wS hw=>by kernel_rfl,trivial⟩) (fun _ _ _ _ _ h=>h) ⟨_,hS49⟩ (l':=[(29,.bool (!(y44))),(7,nI x22),(0,nS g37 L0 c2),(1,nS g40 L1 c6),(2,.func (.func 66) #[] #[])]) (by kernel_rfl) ?_
  intro a52 hF51; clear hF50
  refine any_done (by kernel_rfl) ?_
  refine thenN ?_
  cases hc53:(!(y44))
  case true =>
   rw [hc53] at hF51
   have hm54:=ifYes hc53 hm46; clear hm46
   refine ev_condT hF51 rfl rfl ?_
   refine wp_seq (wp_region_lit ?_)
   refine ev_runK 1 hF51 [6] (l':=[(6,.bool false)]) (w':=w47) (by kernel_rfl) ?_
   intro a56 hF55; clear hF51
   refine wpList_nil (thenN ?_)
   refine wp_ret ?_
   refine blockR ?_
   refine thenR (thenR ?_)
   refine blockR ?_
   refine thenR ?_
   obtain rfl:=Option.some.inj hm54
   refine ev_ret hF55 [6] (.bool false) rfl rfl rfl ?_
   exact ⟨rfl,hS49⟩
  rw [hc53] at hF51
  have hm58:=ifNot hc53 hm46; clear hm46
  refine ev_condF hF51 rfl rfl ?_
  refine wp_skip ?_
  have hF59:=hF51.keep [0,1,2,7]
  clear hF51
  refine blockN ?_
  refine thenN (wp_region_lit ?_)
  refine ev_runK 3 hF59 [0,1,2,7] (l':=[(7,nI (IntKind.i64.wrap (x22+1))),(0,nS g37 L0 c2),(1,nS g40 L1 c6),(2,.func (.func 66) #[] #[])]) (w':=w47) (by kernel_rfl) ?_
  intro a61 hF60; clear hF59
  refine wpList_nil ?_
  exact thenN ⟨k23,Nat.lt_succ_self _,IntKind.i64.wrap (x22+1),hF60,hS49,hm58⟩
 rw [hc32] at hF30
 have hm62:=ifNot hc32 hm29; clear hm29
 refine ev_condF hF30 rfl rfl ?_
 refine wp_exit ?_
 refine thenE ?_
 refine thenE ?_
 refine blockE ?_
 refine thenN (wp_seq (wp_region_lit ?_))
 refine ev_runK 1 hF30 [6] (l':=[(6,.bool true)]) (w':=w25) (by kernel_rfl) ?_
 intro a64 hF63; clear hF30
 refine wpList_nil (thenN ?_)
 refine wp_ret ?_
 obtain rfl:=Option.some.inj hm62
 refine ev_ret hF63 [6] (.bool true) rfl rfl rfl ?_
 exact ⟨rfl,hS27⟩
def help_Plain.m (k:Nat) (L0:List Int) (L1:List Int):Option (Bool):=bind1 (help_Same.m k L0 L1) fun y13=>some (y13)
set_option maxRecDepth 100000 in
set_option maxHeartbeats 1500000 in
theorem help_Plain.ok {w0 w:World} {F0:List Nat} {ps:List Piece} {k:Nat} {v0:Value} {L0:List Int} {v1:Value} {L1:List Int} {r0:Bool} (hS:St w0 F0 (RowP (v0) L0::RowP (v1) L1::ps) w) (hm:help_Plain.m k L0 L1=some r0) :
    Calls Try.prog 25 #[v0,v1] w fun e w'=>e=.returned (.bool r0)∧St w0 F0 (RowP (v0) L0::RowP (v1) L1::ps) w':=by
 refine ev_enterL 8 [v0,v1] Try.func25 rfl rfl (by simp) ?_
 intro a hF
 have hF0:Fr 8 a [(0,v0),(1,v1)]:=hF; clear hF
 unfold help_Plain.m at hm
 obtain ⟨hl4,p1,c2,rfl,hp3⟩:=St.shape hS 0 rfl
 obtain ⟨hl8,p5,c6,rfl,hp7⟩:=St.shape hS 1 rfl
 refine wp_seq (wp_region_lit ?_)
 refine ev_runK 1 hF0 [0,1] (l':=[(0,.slice p1 L0.length c2),(1,.slice p5 L1.length c6)]) (w':=w) (by kernel_rfl) ?_
 intro a10 hF9; clear hF0
 refine wpList_nil (thenN (wp_seq (wp_region_lit ?_)))
 refine ev_runs 2 hF9 (l':=[(6,.slice p5 L1.length c6),(5,.slice p1 L0.length c2),(0,.slice p1 L0.length c2),(1,.slice p5 L1.length c6)]) (w':=w) (by kernel_rfl) ?_
 intro a12 hF11; clear hF9
 refine ev_call 65 #[.slice p1 L0.length c2,.slice p5 L1.length c6,.func (.func 66) #[] #[]] hF11 rfl rfl (by kernel_rfl) rfl (by kernel_rfl) (fun w=>by kernel_rfl) ?_
 obtain ⟨y13,hx14,hm15⟩:=bind1E hm; clear hm
 refine (help_Same.ok hS hx14).mono ?_
 rintro _ w16 ⟨rfl,hS18⟩ a17 hF19; clear hF11 hS
 refine ev_runK 1 hF19 [4] (l':=[(4,.bool (y13))]) (w':=w16) (by kernel_rfl) ?_
 intro a21 hF20; clear hF19
 refine wpList_nil (thenN ?_)
 refine wp_ret ?_
 obtain rfl:=Option.some.inj hm15
 refine ev_ret hF20 [4] (.bool (y13)) rfl rfl rfl ?_
 exact ⟨rfl,hS18⟩
end Go.Proofs.Ytffnjpapggidlaa
