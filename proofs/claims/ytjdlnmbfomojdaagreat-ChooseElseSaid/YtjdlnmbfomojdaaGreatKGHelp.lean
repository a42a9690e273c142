/- GHelp -/
import Derived.Test.YtjdlnmbfomojdaaGreatKPrim
import Derived.Test.YtjdlnmbfomojdaaGreatKEv2
import Derived.Test.YtjdlnmbfomojdaaGreatKEvMap
import Derived.Test.YtjdlnmbfomojdaaGreatKRowB
import Derived.Test.YtjdlnmbfomojdaaGreatKArgK
import Derived.Test.YtjdlnmbfomojdaaGreatKAppM
import Derived.Test.YtjdlnmbfomojdaaGreatKMem
import Derived.Deep.LoopGhost
import Derived.KernelRfl
namespace Go.Proofs.YtjdlnmbfomojdaaGreat
open Go.RowKit
set_option linter.unusedVariables false
def help_eq.m (k:Nat) (i0:Int) (i1:Int):Option (Bool):=some (i0 == i1)
set_option maxRecDepth 100000 in
set_option maxHeartbeats 1500000 in
theorem help_eq.ok {w0 w:World} {F0:List Nat} {ps:List Piece} {k:Nat} {i0:Int} {i1:Int} {r0:Bool} (hS:St w0 F0 (ps) w) (hm:help_eq.m k i0 i1=some r0) :
    Calls Tryz.prog 35 #[nI i0,nI i1] w fun e w'=>e=.returned (.bool r0)∧St w0 F0 (ps) w':=by
 refine ev_enterL 8 [nI i0,nI i1] Tryz.func35 rfl rfl (by simp) ?_
 intro a hF
 have hF0:Fr 8 a [(0,nI i0),(1,nI i1)]:=hF; clear hF
 unfold help_eq.m at hm
 refine wp_seq (wp_region_lit ?_)
 refine ev_runK 1 hF0 [0,1] (l':=[(0,nI i0),(1,nI i1)]) (w':=w) (by kernel_rfl) ?_
 intro a2 hF1; clear hF0
 refine wpList_nil (thenN (wp_seq (wp_region_lit ?_)))
 refine ev_runK 4 hF1 [4] (l':=[(4,.bool (i0 == i1))]) (w':=w) (by kernel_rfl) ?_
 intro a4 hF3; clear hF1
 refine wpList_nil (thenN ?_)
 refine wp_ret ?_
 obtain rfl:=Option.some.inj hm
 refine ev_ret hF3 [4] (.bool (i0 == i1)) rfl rfl rfl ?_
 exact ⟨rfl,hS⟩
def help_Same.l1b (L0:List Int) (L1:List Int) (k:Nat) (rec25:Int→Option (Bool)) (x22:Int):Option (Bool):=(if (decide (x22<(L0.length:Int))) then (if (inR x22 L0.length) then (if (inR x22 L1.length) then bind1 (help_eq.m k (atI L0 x22) (atI L1 x22)) fun y44=>(if (!(y44)) then some (false) else rec25 (IntKind.i64.wrap (x22+1))) else none) else none) else some (true))
def help_Same.l1 (L0:List Int) (L1:List Int) (k:Nat):Nat→Int→Option (Bool)
  | 0=>fun _=>none
  | kI+1=>help_Same.l1b L0 L1 k (help_Same.l1 L0 L1 k kI)
def help_Same.m (k:Nat) (L0:List Int) (L1:List Int):Option (Bool):=(if ((L0.length:Int) != (L1.length:Int)) then some (false) else help_Same.l1 L0 L1 k k 0)
set_option maxRecDepth 100000 in
set_option maxHeartbeats 1500000 in
theorem help_Same.ok {w0 w:World} {F0:List Nat} {ps:List Piece} {k:Nat} {v0:Value} {L0:List Int} {v1:Value} {L1:List Int} {r0:Bool} (hS:St w0 F0 (RowP (v0) L0::RowP (v1) L1::ps) w) (hm:help_Same.m k L0 L1=some r0) :
    Calls Tryz.prog 34 #[v0,v1,.func (.func 35) #[] #[]] w fun e w'=>e=.returned (.bool r0)∧St w0 F0 (RowP (v0) L0::RowP (v1) L1::ps) w':=by
 refine ev_enterL 30 [v0,v1,.func (.func 35) #[] #[]] Tryz.func34 rfl rfl (by simp) ?_
 intro a hF
 have hF0:Fr 30 a [(0,v0),(1,v1),(2,.func (.func 35) #[] #[])]:=hF; clear hF
 unfold help_Same.m at hm
 obtain ⟨hl4,p1,c2,rfl,hp3⟩:=St.shape hS 0 rfl
 obtain ⟨hl8,p5,c6,rfl,hp7⟩:=St.shape hS 1 rfl
 refine wp_seq (wp_region_lit ?_)
 refine ev_runK 1 hF0 [0,1,2] (l':=[(0,.slice p1 L0.length c2),(1,.slice p5 L1.length c6),(2,.func (.func 35) #[] #[])]) (w':=w) (by kernel_rfl) ?_
 intro a10 hF9; clear hF0
 refine wpList_nil (thenN (wp_seq (wp_seq (wp_region_lit ?_))))
 refine ev_runK 5 hF9 [0,1,2,12] (l':=[(12,.bool ((L0.length:Int) != (L1.length:Int))),(0,.slice p1 L0.length c2),(1,.slice p5 L1.length c6),(2,.func (.func 35) #[] #[])]) (w':=w) (by kernel_rfl) ?_
 intro a12 hF11; clear hF9
 refine wpList_nil (thenN ?_)
 cases hc13:((L0.length:Int) != (L1.length:Int))
 case true =>
  rw [hc13] at hF11
  have hm14:=ifYes hc13 hm; clear hm
  refine ev_condT hF11 rfl rfl ?_
  refine wp_seq (wp_region_lit ?_)
  refine ev_runK 1 hF11 [6] (l':=[(6,.bool false)]) (w':=w) (by kernel_rfl) ?_
  intro a16 hF15; clear hF11
  refine wpList_nil (thenN ?_)
  refine wp_ret ?_
  refine thenR ?_
  obtain rfl:=Option.some.inj hm14
  refine ev_ret hF15 [6] (.bool false) rfl rfl rfl ?_
  exact ⟨rfl,hS⟩
 rw [hc13] at hF11
 have hm18:=ifNot hc13 hm; clear hm
 refine ev_condF hF11 rfl rfl ?_
 refine wp_skip ?_
 have hF19:=hF11.keep [0,1,2]
 clear hF11
 refine thenN (wp_seq (wp_seq (wp_region_lit ?_)))
 refine ev_runs 1 hF19 (l':=[(7,nI 0),(0,.slice p1 L0.length c2),(1,.slice p5 L1.length c6),(2,.func (.func 35) #[] #[])]) (w':=w) (by kernel_rfl) ?_
 intro a21 hF20; clear hF19
 refine wpList_nil (thenN ?_)
 refine wp_block ?_
 refine wp_loop_ghost (fun kI aI wI=>∃ (x22:Int),Fr 30 aI [(7,nI x22),(0,.slice p1 L0.length c2),(1,.slice p5 L1.length c6),(2,.func (.func 35) #[] #[])]∧St w0 F0 (RowP (.slice p1 L0.length c2) L0::RowP (.slice p5 L1.length c6) L1::ps) wI∧help_Same.l1 L0 L1 k kI x22=some r0) k ⟨0,hF20,hS,hm18⟩ ?_
 rintro k23 a24 w25 ⟨x22,hF26,hS27,hm28⟩
 clear hF20 hS hm18
 rcases k23 with _ | k23
 · cases hm28
 have hm29:help_Same.l1b L0 L1 k (help_Same.l1 L0 L1 k k23) x22=some r0:=hm28
 clear hm28
 unfold help_Same.l1b at hm29
 refine wp_seq (wp_seq (wp_region_lit ?_))
 refine ev_runK 4 hF26 [0,1,2,7,16] (l':=[(16,.bool (decide (x22<(L0.length:Int)))),(7,nI x22),(0,.slice p1 L0.length c2),(1,.slice p5 L1.length c6),(2,.func (.func 35) #[] #[])]) (w':=w25) (by kernel_rfl) ?_
 intro a31 hF30; clear hF26
 refine wpList_nil (thenN ?_)
 cases hc32:(decide (x22<(L0.length:Int)))
 case true =>
  rw [hc32] at hF30
  have hm33:=ifYes hc32 hm29; clear hm29
  refine ev_condT hF30 rfl rfl ?_
  refine wp_skip ?_
  have hF34:=hF30.keep [0,1,2,7]
  clear hF30
  refine thenN (wp_seq ?_)
  refine wp_block ?_
  refine wp_seq ?_
  obtain ⟨hc35,hm36⟩:=ifTE hm33; clear hm33
  obtain ⟨g37,rfl⟩:=hp3.resolve_left (by have:=inR_spec hc35; omega)
  obtain ⟨hc38,hm39⟩:=ifTE hm36; clear hm36
  obtain ⟨g40,rfl⟩:=hp7.resolve_left (by have:=inR_spec hc38; omega)
  have hS41:=hS27.drew; clear hS27
  refine any_start (fun wS=>∃ qs,St w0 F0 (RowP (nS g37 L0 c2) L0::RowP (nS g40 L1 c6) L1::qs) wS) 11 #[false,false,false,false,false,false,false,false,false,false,false] (by kernel_rfl) (by kernel_rfl) (by kernel_rfl) ?_
  refine any_many 9 [(0,some (.func (.func 35) #[] #[])),(1,some (nS g37 L0 c2)),(2,some (nI x22)),(3,some (nP g37 (x22.toNat))),(4,some (nI (atI L0 x22))),(5,some (nS g40 L1 c6)),(6,some (nI x22)),(7,some (nP g40 (x22.toNat))),(8,some (nI (atI L1 x22)))] [0,1,2,7,19,23,27,28,29] #[true,true,true,true,true,true,true,true,true,false,false] (by rfl) hF34 (by kernel_rfl) (by kernel_rfl) (by exact ⟨fun wS hw=>by kernel_rfl,fun wS hw=>by kernel_rfl,fun wS hw=>by kernel_rfl,fun wS hw=>run_idx rfl rfl rfl rfl rfl (inR_spec hc35).1 (inR_spec hc35).2 _,fun wS hw=>run_load1 rfl rfl rfl (hw.elim fun qs hw=>hw.atI 0 rfl hc35),fun wS hw=>by kernel_rfl,fun wS hw=>by kernel_rfl,fun wS hw=>run_idx rfl rfl rfl rfl rfl (inR_spec hc38).1 (inR_spec hc38).2 _,fun wS hw=>run_load1 rfl rfl rfl (hw.elim fun qs hw=>hw.atI 1 rfl hc38),trivial⟩) (fun _ _ _ _ _ h=>h) ⟨_,hS41⟩ (l':=[(27,nI (atI L1 x22)),(23,nI (atI L0 x22)),(19,.func (.func 35) #[] #[]),(7,nI x22),(0,nS g37 L0 c2),(1,nS g40 L1 c6),(2,.func (.func 35) #[] #[])]) (by kernel_rfl) ?_
  intro a43 hF42; clear hF34
  refine any_call 9 #[true,true,true,true,true,true,true,true,true,true,false] 35 #[nI (atI L0 x22),nI (atI L1 x22)] hF42 rfl (by kernel_rfl) rfl rfl (by kernel_rfl) rfl (by kernel_rfl) (fun w=>by kernel_rfl) (by kernel_rfl) ?_
  obtain ⟨y44,hx45,hm46⟩:=bind1E hm39; clear hm39
  refine (help_eq.ok hS41 hx45).mono ?_
  rintro _ w47 ⟨rfl,hS49⟩; clear hS41
  refine ⟨⟨_,hS49⟩,?_⟩
  intro a48 hF50; clear hF42
  refine any_many 1 [(10,some (.bool (!(y44))))] [0,1,2,7,29] #[true,true,true,true,true,true,true,true,true,true,true] (by rfl) hF50 (by kernel_rfl) (by kernel_rfl) (by exact ⟨fun wS hw=>by kernel_rfl,trivial⟩) (fun _ _ _ _ _ h=>h) ⟨_,hS49⟩ (l':=[(29,.bool (!(y44))),(7,nI x22),(0,nS g37 L0 c2),(1,nS g40 L1 c6),(2,.func (.func 35) #[] #[])]) (by kernel_rfl) ?_
  intro a52 hF51; clear hF50
  refine any_done (by kernel_rfl) ?_
  refine thenN ?_
  cases hc53:(!(y44))
  case true =>
   rw [hc53] at hF51
   have hm54:=ifYes hc53 hm46; clear hm46
   refine ev_condT hF51 rfl rfl ?_
   refine wp_seq (wp_region_lit ?_)
   refine ev_runK 1 hF51 [6] (l':=[(6,.bool false)]) (w':=w47) (by kernel_rfl) ?_
   intro a56 hF55; clear hF51
   refine wpList_nil (thenN ?_)
   refine wp_ret ?_
   refine blockR ?_
   refine thenR (thenR ?_)
   refine blockR ?_
   refine thenR ?_
   obtain rfl:=Option.some.inj hm54
   refine ev_ret hF55 [6] (.bool false) rfl rfl rfl ?_
   exact ⟨rfl,hS49⟩
  rw [hc53] at hF51
  have hm58:=ifNot hc53 hm46; clear hm46
  refine ev_condF hF51 rfl rfl ?_
  refine wp_skip ?_
  have hF59:=hF51.keep [0,1,2,7]
  clear hF51
  refine blockN ?_
  refine thenN (wp_region_lit ?_)
  refine ev_runK 3 hF59 [0,1,2,7] (l':=[(7,nI (IntKind.i64.wrap (x22+1))),(0,nS g37 L0 c2),(1,nS g40 L1 c6),(2,.func (.func 35) #[] #[])]) (w':=w47) (by kernel_rfl) ?_
  intro a61 hF60; clear hF59
  refine wpList_nil ?_
  exact thenN ⟨k23,Nat.lt_succ_self _,IntKind.i64.wrap (x22+1),hF60,hS49,hm58⟩
 rw [hc32] at hF30
 have hm62:=ifNot hc32 hm29; clear hm29
 refine ev_condF hF30 rfl rfl ?_
 refine wp_exit ?_
 refine thenE ?_
 refine thenE ?_
 refine blockE ?_
 refine thenN (wp_seq (wp_region_lit ?_))
 refine ev_runK 1 hF30 [6] (l':=[(6,.bool true)]) (w':=w25) (by kernel_rfl) ?_
 intro a64 hF63; clear hF30
 refine wpList_nil (thenN ?_)
 refine wp_ret ?_
 obtain rfl:=Option.some.inj hm62
 refine ev_ret hF63 [6] (.bool true) rfl rfl rfl ?_
 exact ⟨rfl,hS27⟩
def help_Plain.m (k:Nat) (L0:List Int) (L1:List Int):Option (Bool):=bind1 (help_Same.m k L0 L1) fun y13=>some (y13)
set_option maxRecDepth 100000 in
set_option maxHeartbeats 1500000 in
theorem help_Plain.ok {w0 w:World} {F0:List Nat} {ps:List Piece} {k:Nat} {v0:Value} {L0:List Int} {v1:Value} {L1:List Int} {r0:Bool} (hS:St w0 F0 (RowP (v0) L0::RowP (v1) L1::ps) w) (hm:help_Plain.m k L0 L1=some r0) :
    Calls Tryz.prog 18 #[v0,v1] w fun e w'=>e=.returned (.bool r0)∧St w0 F0 (RowP (v0) L0::RowP (v1) L1::ps) w':=by
 refine ev_enterL 8 [v0,v1] Tryz.func18 rfl rfl (by simp) ?_
 intro a hF
 have hF0:Fr 8 a [(0,v0),(1,v1)]:=hF; clear hF
 unfold help_Plain.m at hm
 obtain ⟨hl4,p1,c2,rfl,hp3⟩:=St.shape hS 0 rfl
 obtain ⟨hl8,p5,c6,rfl,hp7⟩:=St.shape hS 1 rfl
 refine wp_seq (wp_region_lit ?_)
 refine ev_runK 1 hF0 [0,1] (l':=[(0,.slice p1 L0.length c2),(1,.slice p5 L1.length c6)]) (w':=w) (by kernel_rfl) ?_
 intro a10 hF9; clear hF0
 refine wpList_nil (thenN (wp_seq (wp_region_lit ?_)))
 refine ev_runs 2 hF9 (l':=[(6,.slice p5 L1.length c6),(5,.slice p1 L0.length c2),(0,.slice p1 L0.length c2),(1,.slice p5 L1.length c6)]) (w':=w) (by kernel_rfl) ?_
 intro a12 hF11; clear hF9
 refine ev_call 34 #[.slice p1 L0.length c2,.slice p5 L1.length c6,.func (.func 35) #[] #[]] hF11 rfl rfl (by kernel_rfl) rfl (by kernel_rfl) (fun w=>by kernel_rfl) ?_
 obtain ⟨y13,hx14,hm15⟩:=bind1E hm; clear hm
 refine (help_Same.ok hS hx14).mono ?_
 rintro _ w16 ⟨rfl,hS18⟩ a17 hF19; clear hF11 hS
 refine ev_runK 1 hF19 [4] (l':=[(4,.bool (y13))]) (w':=w16) (by kernel_rfl) ?_
 intro a21 hF20; clear hF19
 refine wpList_nil (thenN ?_)
 refine wp_ret ?_
 obtain rfl:=Option.some.inj hm15
 refine ev_ret hF20 [4] (.bool (y13)) rfl rfl rfl ?_
 exact ⟨rfl,hS18⟩
end Go.Proofs.YtjdlnmbfomojdaaGreat
