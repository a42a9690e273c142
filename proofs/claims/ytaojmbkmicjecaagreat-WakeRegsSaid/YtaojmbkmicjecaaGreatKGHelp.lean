/- GHelp -/
import Derived.Test.YtaojmbkmicjecaaGreatKPrim
import Derived.Test.YtaojmbkmicjecaaGreatKEv2
import Derived.Test.YtaojmbkmicjecaaGreatKEvMap
import Derived.Test.YtaojmbkmicjecaaGreatKRowB
import Derived.Test.YtaojmbkmicjecaaGreatKArgK
import Derived.Test.YtaojmbkmicjecaaGreatKAppM
import Derived.Test.YtaojmbkmicjecaaGreatKMem
import Derived.Deep.LoopGhost
import Derived.KernelRfl
namespace Go.Proofs.YtaojmbkmicjecaaGreat
open Go.RowKit
set_option linter.unusedVariables false
def help_In.l1b (L0:List Int) (i1:Int) (rec12:Int→Option (Bool)) (x9:Int):Option (Bool):=(if (decide (x9<(L0.length:Int))) then (if (inR x9 L0.length) then (if ((atI L0 x9) == i1) then some (true) else rec12 (IntKind.i64.wrap (x9+1))) else none) else some (false))
def help_In.l1 (L0:List Int) (i1:Int):Nat→Int→Option (Bool)
  | 0=>fun _=>none
  | kI+1=>help_In.l1b L0 i1 (help_In.l1 L0 i1 kI)
def help_In.m (k:Nat) (L0:List Int) (i1:Int):Option (Bool):=help_In.l1 L0 i1 k 0
set_option maxRecDepth 100000 in
set_option maxHeartbeats 1500000 in
theorem help_In.ok {w0 w:World} {F0:List Nat} {ps:List Piece} {k:Nat} {v0:Value} {L0:List Int} {i1:Int} {r0:Bool} (hS:St w0 F0 (RowP (v0) L0::ps) w) (hm:help_In.m k L0 i1=some r0) :
    Calls Tryz.prog 155 #[v0,nI i1] w fun e w'=>e=.returned (.bool r0)∧St w0 F0 (RowP (v0) L0::ps) w':=by
 refine ev_enterL 18 [v0,nI i1] Tryz.func155 rfl rfl (by simp) ?_
 intro a hF
 have hF0:Fr 18 a [(0,v0),(1,nI i1)]:=hF; clear hF
 unfold help_In.m at hm
 obtain ⟨hl4,p1,c2,rfl,hp3⟩:=St.shape hS 0 rfl
 refine wp_seq (wp_region_lit ?_)
 refine ev_runK 1 hF0 [0,1] (l':=[(0,.slice p1 L0.length c2),(1,nI i1)]) (w':=w) (by kernel_rfl) ?_
 intro a6 hF5; clear hF0
 refine wpList_nil (thenN (wp_seq (wp_seq (wp_region_lit ?_))))
 refine ev_runs 1 hF5 (l':=[(5,nI 0),(0,.slice p1 L0.length c2),(1,nI i1)]) (w':=w) (by kernel_rfl) ?_
 intro a8 hF7; clear hF5
 refine wpList_nil (thenN ?_)
 refine wp_block ?_
 refine wp_loop_ghost (fun kI aI wI=>∃ (x9:Int),Fr 18 aI [(5,nI x9),(0,.slice p1 L0.length c2),(1,nI i1)]∧St w0 F0 (RowP (.slice p1 L0.length c2) L0::ps) wI∧help_In.l1 L0 i1 kI x9=some r0) k ⟨0,hF7,hS,hm⟩ ?_
 rintro k10 a11 w12 ⟨x9,hF13,hS14,hm15⟩
 clear hF7 hS hm
 rcases k10 with _ | k10
 · cases hm15
 have hm16:help_In.l1b L0 i1 (help_In.l1 L0 i1 k10) x9=some r0:=hm15
 clear hm15
 unfold help_In.l1b at hm16
 refine wp_seq (wp_seq (wp_region_lit ?_))
 refine ev_runK 4 hF13 [0,1,5,9] (l':=[(9,.bool (decide (x9<(L0.length:Int)))),(5,nI x9),(0,.slice p1 L0.length c2),(1,nI i1)]) (w':=w12) (by kernel_rfl) ?_
 intro a18 hF17; clear hF13
 refine wpList_nil (thenN ?_)
 cases hc19:(decide (x9<(L0.length:Int)))
 case true =>
  rw [hc19] at hF17
  have hm20:=ifYes hc19 hm16; clear hm16
  refine ev_condT hF17 rfl rfl ?_
  refine wp_skip ?_
  have hF21:=hF17.keep [0,1,5]
  clear hF17
  refine thenN (wp_seq ?_)
  refine wp_block ?_
  refine wp_seq (wp_region_lit ?_)
  refine ev_runs 2 hF21 (l':=[(13,nI x9),(12,.slice p1 L0.length c2),(5,nI x9),(0,.slice p1 L0.length c2),(1,nI i1)]) (w':=w12) (by kernel_rfl) ?_
  intro a23 hF22; clear hF21
  obtain ⟨hc24,hm25⟩:=ifTE hm20; clear hm20
  obtain ⟨g26,rfl⟩:=hp3.resolve_left (by have:=inR_spec hc24; omega)
  refine ev_one (nP g26 (x9.toNat)) w12 hF22 (by kernel_rfl) rfl (by kernel_rfl) (run_idx rfl rfl rfl rfl rfl (inR_spec hc24).1 (inR_spec hc24).2 _) (l':=[(14,nP g26 (x9.toNat)),(13,nI x9),(12,nS g26 L0 c2),(5,nI x9),(0,nS g26 L0 c2),(1,nI i1)]) (by kernel_rfl) ?_
  intro a28 hF27; clear hF22
  refine ev_one (nI (atI L0 x9)) w12 hF27 (by kernel_rfl) rfl (by kernel_rfl) (run_load1 rfl rfl rfl (hS14.atI 0 rfl hc24)) (l':=[(15,nI (atI L0 x9)),(14,nP g26 (x9.toNat)),(13,nI x9),(12,nS g26 L0 c2),(5,nI x9),(0,nS g26 L0 c2),(1,nI i1)]) (by kernel_rfl) ?_
  intro a30 hF29; clear hF27
  refine ev_runK 2 hF29 [0,1,5,17] (l':=[(17,.bool ((atI L0 x9) == i1)),(5,nI x9),(0,nS g26 L0 c2),(1,nI i1)]) (w':=w12) (by kernel_rfl) ?_
  intro a32 hF31; clear hF29
  refine wpList_nil (thenN ?_)
  cases hc33:((atI L0 x9) == i1)
  case true =>
   rw [hc33] at hF31
   have hm34:=ifYes hc33 hm25; clear hm25
   refine ev_condT hF31 rfl rfl ?_
   refine wp_seq (wp_region_lit ?_)
   refine ev_runK 1 hF31 [4] (l':=[(4,.bool true)]) (w':=w12) (by kernel_rfl) ?_
   intro a36 hF35; clear hF31
   refine wpList_nil (thenN ?_)
   refine wp_ret ?_
   refine blockR ?_
   refine thenR (thenR ?_)
   refine blockR ?_
   refine thenR ?_
   obtain rfl:=Option.some.inj hm34
   refine ev_ret hF35 [4] (.bool true) rfl rfl rfl ?_
   exact ⟨rfl,hS14⟩
  rw [hc33] at hF31
  have hm38:=ifNot hc33 hm25; clear hm25
  refine ev_condF hF31 rfl rfl ?_
  refine wp_skip ?_
  have hF39:=hF31.keep [0,1,5]
  clear hF31
  refine blockN ?_
  refine thenN (wp_region_lit ?_)
  refine ev_runK 3 hF39 [0,1,5] (l':=[(5,nI (IntKind.i64.wrap (x9+1))),(0,nS g26 L0 c2),(1,nI i1)]) (w':=w12) (by kernel_rfl) ?_
  intro a41 hF40; clear hF39
  refine wpList_nil ?_
  exact thenN ⟨k10,Nat.lt_succ_self _,IntKind.i64.wrap (x9+1),hF40,hS14,hm38⟩
 rw [hc19] at hF17
 have hm42:=ifNot hc19 hm16; clear hm16
 refine ev_condF hF17 rfl rfl ?_
 refine wp_exit ?_
 refine thenE ?_
 refine thenE ?_
 refine blockE ?_
 refine thenN (wp_seq (wp_region_lit ?_))
 refine ev_runK 1 hF17 [4] (l':=[(4,.bool false)]) (w':=w12) (by kernel_rfl) ?_
 intro a44 hF43; clear hF17
 refine wpList_nil (thenN ?_)
 refine wp_ret ?_
 obtain rfl:=Option.some.inj hm42
 refine ev_ret hF43 [4] (.bool false) rfl rfl rfl ?_
 exact ⟨rfl,hS14⟩
end Go.Proofs.YtaojmbkmicjecaaGreat
