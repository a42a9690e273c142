/- GArenaPlays -/
import Derived.Test.YtffnjpapggidlaaKGHelp
import Derived.Test.YtffnjpapggidlaaKArPrim
import Derived.Test.YtffnjpapggidlaaKRow07
import Derived.Test.YtffnjpapggidlaaKArgX
import Derived.Deep.LoopGhost
import Derived.KernelRfl
namespace Go.Proofs.Ytffnjpapggidlaa
open Go.RowKit
set_option linter.unusedVariables false
def law07_awake.j1 (y54:Bool):Option (Bool):=some (y54)
def law07_awake.m (k:Nat):Option (Bool):=bind1 (rNew 2) fun s3=>bind3 (rAlloc 5 2 s3) fun x19 x20 s21=>bind2 (rStore x19 1 7 s21) fun x32 s33=>bind2 (rLoad x19 1 s33) fun x44 x45=>(if (x20 == 0) then (if (x19 == 0) then (if (x32 == 0) then (if (x45 == 0) then (if (x44 == 7) then (if ((aKind s33.c 0) == 5) then (if ((aLen s33.c 0) == 2) then (if ((sWords s33.l) == 4) then law07_awake.j1 ((s33.c.length:Int) == 64) else law07_awake.j1 false) else law07_awake.j1 false) else law07_awake.j1 false) else law07_awake.j1 false) else law07_awake.j1 false) else law07_awake.j1 false) else law07_awake.j1 false) else law07_awake.j1 false)
set_option maxRecDepth 100000 in
set_option maxHeartbeats 1500000 in
theorem law07_awake.ok {w0 w:World} {F0:List Nat} {ps:List Piece} {k:Nat}  {r0:Bool} (hS:St w0 F0 (ps) w) (hm:law07_awake.m k=some r0) :
    Calls Try.prog 17 #[] w fun e w'=>e=.returned (.bool r0)∧St w0 F0 (ps) w':=by
 refine ev_enterL 70 [] Try.func17 rfl rfl (by simp) ?_
 intro a hF
 have hF0:Fr 70 a []:=hF; clear hF
 unfold law07_awake.m at hm
 refine wp_seq (wp_region_lit ?_)
 refine ev_runK 1 hF0 [] (l':=[]) (w':=w) (by kernel_rfl) ?_
 intro a2 hF1; clear hF0
 refine wpList_nil (thenN (wp_seq (wp_region_lit ?_)))
 refine ev_call 15 #[nI 2] hF1 rfl rfl (by kernel_rfl) rfl (by kernel_rfl) (fun w=>by kernel_rfl) ?_
 obtain ⟨s3,hx4,hm5⟩:=bind1E hm; clear hm
 refine (r_New hS hx4).mono ?_
 rintro _ w6 ⟨z10,rfl,hS8⟩ a7 hF9; clear hF1 hS
 refine ev_runK 5 hF9 [1,2] (l':=[(2,nI 0),(1,nP z10 0)]) (w':=w6) (by kernel_rfl) ?_
 intro a13 hF12; clear hF9
 refine wpList_nil (thenN (wp_seq (wp_seq (wp_region_lit ?_))))
 refine ev_runK 6 hF12 [1,17] (l':=[(17,.bool false),(1,nP z10 0)]) (w':=w6) (by kernel_rfl) ?_
 intro a15 hF14; clear hF12
 refine wpList_nil (thenN ?_)
 refine ev_condF hF14 rfl rfl ?_
 refine wp_skip ?_
 have hF16:=hF14.keep [1]
 clear hF14
 refine thenN (wp_seq (wp_region_lit ?_))
 refine ev_runs 1 hF16 (l':=[(19,nP z10 0),(1,nP z10 0)]) (w':=w6) (by kernel_rfl) ?_
 intro a18 hF17; clear hF16
 refine ev_call 23 #[nP z10 0,nI 5,nI 2] hF17 rfl rfl (by kernel_rfl) rfl (by kernel_rfl) (fun w=>by kernel_rfl) ?_
 obtain ⟨x19,x20,s21,hx22,hm23⟩:=bind3E hm5; clear hm5
 refine (r_Alloc hS8 hx22).mono ?_
 rintro _ w24 ⟨rfl,hS26⟩ a25 hF27; clear hF17 hS8
 refine ev_runK 5 hF27 [1,3,4] (l':=[(4,nI x20),(3,nI x19),(1,nP z10 0)]) (w':=w24) (by kernel_rfl) ?_
 intro a29 hF28; clear hF27
 refine wpList_nil (thenN (wp_seq (wp_region_lit ?_)))
 refine ev_runs 2 hF28 (l':=[(24,nI x19),(23,nP z10 0),(4,nI x20),(3,nI x19),(1,nP z10 0)]) (w':=w24) (by kernel_rfl) ?_
 intro a31 hF30; clear hF28
 refine ev_call 21 #[nP z10 0,nI x19,nI 1,nI 7] hF30 rfl rfl (by kernel_rfl) rfl (by kernel_rfl) (fun w=>by kernel_rfl) ?_
 obtain ⟨x32,s33,hx34,hm35⟩:=bind2E hm23; clear hm23
 refine (r_Store hS26 hx34).mono ?_
 rintro _ w36 ⟨rfl,hS38⟩ a37 hF39; clear hF30 hS26
 refine ev_runK 1 hF39 [1,3,4,5] (l':=[(5,nI x32),(4,nI x20),(3,nI x19),(1,nP z10 0)]) (w':=w36) (by kernel_rfl) ?_
 intro a41 hF40; clear hF39
 refine wpList_nil (thenN (wp_seq (wp_region_lit ?_)))
 refine ev_runs 2 hF40 (l':=[(28,nI x19),(27,nP z10 0),(5,nI x32),(4,nI x20),(3,nI x19),(1,nP z10 0)]) (w':=w36) (by kernel_rfl) ?_
 intro a43 hF42; clear hF40
 refine ev_call 34 #[nP z10 0,nI x19,nI 1] hF42 rfl rfl (by kernel_rfl) rfl (by kernel_rfl) (fun w=>by kernel_rfl) ?_
 obtain ⟨x44,x45,hx46,hm47⟩:=bind2E hm35; clear hm35
 refine (r_Load hS38 hx46).mono ?_
 rintro _ w48 ⟨rfl,hS50⟩ a49 hF51; clear hF42 hS38
 refine ev_runK 5 hF51 [1,3,4,5,6,7] (l':=[(7,nI x45),(6,nI x44),(5,nI x32),(4,nI x20),(3,nI x19),(1,nP z10 0)]) (w':=w48) (by kernel_rfl) ?_
 intro a53 hF52; clear hF51
 refine wpList_nil (thenN (wp_seq ?_))
 refine joinQ (fun aI wI=>∃ (y54:Bool),Fr 70 aI [(0,.bool (y54))]∧St w0 F0 (ps) wI∧law07_awake.j1 y54=some r0) ?_ ?_
 rotate_left
 · rintro a56 w57 ⟨y54,hF58,hS59,hm60⟩
   clear hF52 hS50 hm47
   unfold law07_awake.j1 at hm60
   refine thenN ?_
   refine wp_ret ?_
   obtain rfl:=Option.some.inj hm60
   refine ev_ret hF58 [0] (.bool (y54)) rfl rfl rfl ?_
   exact ⟨rfl,hS59⟩
 · skip
   refine wp_region_lit ?_
   refine ev_runs 3 hF52 (l':=[(34,.bool (x20 == 0)),(33,.bool (x20 == 0)),(32,nI x20),(7,nI x45),(6,nI x44),(5,nI x32),(4,nI x20),(3,nI x19),(1,nP z10 0)]) (w':=w48) (by kernel_rfl) ?_
   intro a64 hF63; clear hF52
   cases hc65:(x20 == 0)
   case true =>
    rw [hc65] at hF63
    have hm66:=ifYes hc65 hm47; clear hm47
    refine ev_runs 4 hF63 (l':=[(38,.bool (x19 == 0)),(37,.bool (x19 == 0)),(36,.bool (x19 == 0)),(35,nI x19),(34,.bool true),(33,.bool true),(32,nI x20),(7,nI x45),(6,nI x44),(5,nI x32),(4,nI x20),(3,nI x19),(1,nP z10 0)]) (w':=w48) (by kernel_rfl) ?_
    intro a68 hF67; clear hF63
    cases hc69:(x19 == 0)
    case true =>
     rw [hc69] at hF67
     have hm70:=ifYes hc69 hm66; clear hm66
     refine ev_runs 4 hF67 (l':=[(42,.bool (x32 == 0)),(41,.bool (x32 == 0)),(40,.bool (x32 == 0)),(39,nI x32),(38,.bool true),(37,.bool true),(36,.bool true),(35,nI x19),(34,.bool true),(33,.bool true),(32,nI x20),(7,nI x45),(6,nI x44),(5,nI x32),(4,nI x20),(3,nI x19),(1,nP z10 0)]) (w':=w48) (by kernel_rfl) ?_
     intro a72 hF71; clear hF67
     cases hc73:(x32 == 0)
     case true =>
      rw [hc73] at hF71
      have hm74:=ifYes hc73 hm70; clear hm70
      refine ev_runs 4 hF71 (l':=[(46,.bool (x45 == 0)),(45,.bool (x45 == 0)),(44,.bool (x45 == 0)),(43,nI x45),(42,.bool true),(41,.bool true),(40,.bool true),(39,nI x32),(38,.bool true),(37,.bool true),(36,.bool true),(35,nI x19),(34,.bool true),(33,.bool true),(32,nI x20),(7,nI x45),(6,nI x44),(5,nI x32),(4,nI x20),(3,nI x19),(1,nP z10 0)]) (w':=w48) (by kernel_rfl) ?_
      intro a76 hF75; clear hF71
      cases hc77:(x45 == 0)
      case true =>
       rw [hc77] at hF75
       have hm78:=ifYes hc77 hm74; clear hm74
       refine ev_runs 4 hF75 (l':=[(50,.bool (x44 == 7)),(49,.bool (x44 == 7)),(48,.bool (x44 == 7)),(47,nI x44),(46,.bool true),(45,.bool true),(44,.bool true),(43,nI x45),(42,.bool true),(41,.bool true),(40,.bool true),(39,nI x32),(38,.bool true),(37,.bool true),(36,.bool true),(35,nI x19),(34,.bool true),(33,.bool true),(32,nI x20),(7,nI x45),(6,nI x44),(5,nI x32),(4,nI x20),(3,nI x19),(1,nP z10 0)]) (w':=w48) (by kernel_rfl) ?_
       intro a80 hF79; clear hF75
       cases hc81:(x44 == 7)
       case true =>
        rw [hc81] at hF79
        have hm82:=ifYes hc81 hm78; clear hm78
        refine ev_runs 1 hF79 (l':=[(51,nP z10 0),(50,.bool true),(49,.bool true),(48,.bool true),(47,nI x44),(46,.bool true),(45,.bool true),(44,.bool true),(43,nI x45),(42,.bool true),(41,.bool true),(40,.bool true),(39,nI x32),(38,.bool true),(37,.bool true),(36,.bool true),(35,nI x19),(34,.bool true),(33,.bool true),(32,nI x20),(7,nI x45),(6,nI x44),(5,nI x32),(4,nI x20),(3,nI x19),(1,nP z10 0)]) (w':=w48) (by kernel_rfl) ?_
        intro a84 hF83; clear hF79
        refine ev_call 30 #[nP z10 0,nI 0] hF83 rfl rfl (by kernel_rfl) rfl (by kernel_rfl) (fun w=>by kernel_rfl) ?_
        refine (r_Kind hS50).mono ?_
        rintro _ w85 ⟨rfl,hS87⟩ a86 hF88; clear hF83 hS50
        refine ev_runs 3 hF88 (l':=[(55,.bool ((aKind s33.c 0) == 5)),(54,.bool ((aKind s33.c 0) == 5)),(53,.bool ((aKind s33.c 0) == 5)),(52,nI (aKind s33.c 0)),(51,nP z10 0),(50,.bool true),(49,.bool true),(48,.bool true),(47,nI x44),(46,.bool true),(45,.bool true),(44,.bool true),(43,nI x45),(42,.bool true),(41,.bool true),(40,.bool true),(39,nI x32),(38,.bool true),(37,.bool true),(36,.bool true),(35,nI x19),(34,.bool true),(33,.bool true),(32,nI x20),(7,nI x45),(6,nI x44),(5,nI x32),(4,nI x20),(3,nI x19),(1,nP z10 0)]) (w':=w85) (by kernel_rfl) ?_
        intro a90 hF89; clear hF88
        cases hc91:((aKind s33.c 0) == 5)
        case true =>
         rw [hc91] at hF89
         have hm92:=ifYes hc91 hm82; clear hm82
         refine ev_runs 1 hF89 (l':=[(56,nP z10 0),(55,.bool true),(54,.bool true),(53,.bool true),(52,nI (aKind s33.c 0)),(51,nP z10 0),(50,.bool true),(49,.bool true),(48,.bool true),(47,nI x44),(46,.bool true),(45,.bool true),(44,.bool true),(43,nI x45),(42,.bool true),(41,.bool true),(40,.bool true),(39,nI x32),(38,.bool true),(37,.bool true),(36,.bool true),(35,nI x19),(34,.bool true),(33,.bool true),(32,nI x20),(7,nI x45),(6,nI x44),(5,nI x32),(4,nI x20),(3,nI x19),(1,nP z10 0)]) (w':=w85) (by kernel_rfl) ?_
         intro a94 hF93; clear hF89
         refine ev_call 32 #[nP z10 0,nI 0] hF93 rfl rfl (by kernel_rfl) rfl (by kernel_rfl) (fun w=>by kernel_rfl) ?_
         refine (r_Len hS87).mono ?_
         rintro _ w95 ⟨rfl,hS97⟩ a96 hF98; clear hF93 hS87
         refine ev_runs 3 hF98 (l':=[(60,.bool ((aLen s33.c 0) == 2)),(59,.bool ((aLen s33.c 0) == 2)),(58,.bool ((aLen s33.c 0) == 2)),(57,nI (aLen s33.c 0)),(56,nP z10 0),(55,.bool true),(54,.bool true),(53,.bool true),(52,nI (aKind s33.c 0)),(51,nP z10 0),(50,.bool true),(49,.bool true),(48,.bool true),(47,nI x44),(46,.bool true),(45,.bool true),(44,.bool true),(43,nI x45),(42,.bool true),(41,.bool true),(40,.bool true),(39,nI x32),(38,.bool true),(37,.bool true),(36,.bool true),(35,nI x19),(34,.bool true),(33,.bool true),(32,nI x20),(7,nI x45),(6,nI x44),(5,nI x32),(4,nI x20),(3,nI x19),(1,nP z10 0)]) (w':=w95) (by kernel_rfl) ?_
         intro a100 hF99; clear hF98
         cases hc101:((aLen s33.c 0) == 2)
         case true =>
          rw [hc101] at hF99
          have hm102:=ifYes hc101 hm92; clear hm92
          refine ev_runs 1 hF99 (l':=[(61,nP z10 0),(60,.bool true),(59,.bool true),(58,.bool true),(57,nI (aLen s33.c 0)),(56,nP z10 0),(55,.bool true),(54,.bool true),(53,.bool true),(52,nI (aKind s33.c 0)),(51,nP z10 0),(50,.bool true),(49,.bool true),(48,.bool true),(47,nI x44),(46,.bool true),(45,.bool true),(44,.bool true),(43,nI x45),(42,.bool true),(41,.bool true),(40,.bool true),(39,nI x32),(38,.bool true),(37,.bool true),(36,.bool true),(35,nI x19),(34,.bool true),(33,.bool true),(32,nI x20),(7,nI x45),(6,nI x44),(5,nI x32),(4,nI x20),(3,nI x19),(1,nP z10 0)]) (w':=w95) (by kernel_rfl) ?_
          intro a104 hF103; clear hF99
          refine ev_call 27 #[nP z10 0] hF103 rfl rfl (by kernel_rfl) rfl (by kernel_rfl) (fun w=>by kernel_rfl) ?_
          refine (r_Used hS97).mono ?_
          rintro _ w105 ⟨rfl,hS107⟩ a106 hF108; clear hF103 hS97
          refine ev_runs 3 hF108 (l':=[(65,.bool ((sWords s33.l) == 4)),(64,.bool ((sWords s33.l) == 4)),(63,.bool ((sWords s33.l) == 4)),(62,nI (sWords s33.l)),(61,nP z10 0),(60,.bool true),(59,.bool true),(58,.bool true),(57,nI (aLen s33.c 0)),(56,nP z10 0),(55,.bool true),(54,.bool true),(53,.bool true),(52,nI (aKind s33.c 0)),(51,nP z10 0),(50,.bool true),(49,.bool true),(48,.bool true),(47,nI x44),(46,.bool true),(45,.bool true),(44,.bool true),(43,nI x45),(42,.bool true),(41,.bool true),(40,.bool true),(39,nI x32),(38,.bool true),(37,.bool true),(36,.bool true),(35,nI x19),(34,.bool true),(33,.bool true),(32,nI x20),(7,nI x45),(6,nI x44),(5,nI x32),(4,nI x20),(3,nI x19),(1,nP z10 0)]) (w':=w105) (by kernel_rfl) ?_
          intro a110 hF109; clear hF108
          cases hc111:((sWords s33.l) == 4)
          case true =>
           rw [hc111] at hF109
           have hm112:=ifYes hc111 hm102; clear hm102
           refine ev_runs 1 hF109 (l':=[(66,nP z10 0),(65,.bool true),(64,.bool true),(63,.bool true),(62,nI (sWords s33.l)),(61,nP z10 0),(60,.bool true),(59,.bool true),(58,.bool true),(57,nI (aLen s33.c 0)),(56,nP z10 0),(55,.bool true),(54,.bool true),(53,.bool true),(52,nI (aKind s33.c 0)),(51,nP z10 0),(50,.bool true),(49,.bool true),(48,.bool true),(47,nI x44),(46,.bool true),(45,.bool true),(44,.bool true),(43,nI x45),(42,.bool true),(41,.bool true),(40,.bool true),(39,nI x32),(38,.bool true),(37,.bool true),(36,.bool true),(35,nI x19),(34,.bool true),(33,.bool true),(32,nI x20),(7,nI x45),(6,nI x44),(5,nI x32),(4,nI x20),(3,nI x19),(1,nP z10 0)]) (w':=w105) (by kernel_rfl) ?_
           intro a114 hF113; clear hF109
           refine ev_call 29 #[nP z10 0] hF113 rfl rfl (by kernel_rfl) rfl (by kernel_rfl) (fun w=>by kernel_rfl) ?_
           refine (r_Words hS107).mono ?_
           rintro _ w115 ⟨rfl,hS117⟩ a116 hF118; clear hF113 hS107
           refine ev_runK 3 hF118 [0] (l':=[(0,.bool ((s33.c.length:Int) == 64))]) (w':=w115) (by kernel_rfl) ?_
           intro a120 hF119; clear hF118
           refine wpList_nil ?_
           have hS121:=hS117.drop
           clear hS117
           exact thenN ⟨(s33.c.length:Int) == 64,hF119,hS121,hm112⟩
          rw [hc111] at hF109
          have hm122:=ifNot hc111 hm102; clear hm102
          refine ev_runK 5 hF109 [0] (l':=[(0,.bool false)]) (w':=w105) (by kernel_rfl) ?_
          intro a124 hF123; clear hF109
          refine wpList_nil ?_
          have hS125:=hS107.drop
          clear hS107
          exact thenN ⟨false,hF123,hS125,hm122⟩
         rw [hc101] at hF99
         have hm126:=ifNot hc101 hm92; clear hm92
         refine ev_runK 10 hF99 [0] (l':=[(0,.bool false)]) (w':=w95) (by kernel_rfl) ?_
         intro a128 hF127; clear hF99
         refine wpList_nil ?_
         have hS129:=hS97.drop
         clear hS97
         exact thenN ⟨false,hF127,hS129,hm126⟩
        rw [hc91] at hF89
        have hm130:=ifNot hc91 hm82; clear hm82
        refine ev_runK 15 hF89 [0] (l':=[(0,.bool false)]) (w':=w85) (by kernel_rfl) ?_
        intro a132 hF131; clear hF89
        refine wpList_nil ?_
        have hS133:=hS87.drop
        clear hS87
        exact thenN ⟨false,hF131,hS133,hm130⟩
       rw [hc81] at hF79
       have hm134:=ifNot hc81 hm78; clear hm78
       refine ev_runK 20 hF79 [0] (l':=[(0,.bool false)]) (w':=w48) (by kernel_rfl) ?_
       intro a136 hF135; clear hF79
       refine wpList_nil ?_
       have hS137:=hS50.drop
       clear hS50
       exact thenN ⟨false,hF135,hS137,hm134⟩
      rw [hc77] at hF75
      have hm138:=ifNot hc77 hm74; clear hm74
      refine ev_runK 24 hF75 [0] (l':=[(0,.bool false)]) (w':=w48) (by kernel_rfl) ?_
      intro a140 hF139; clear hF75
      refine wpList_nil ?_
      have hS141:=hS50.drop
      clear hS50
      exact thenN ⟨false,hF139,hS141,hm138⟩
     rw [hc73] at hF71
     have hm142:=ifNot hc73 hm70; clear hm70
     refine ev_runK 28 hF71 [0] (l':=[(0,.bool false)]) (w':=w48) (by kernel_rfl) ?_
     intro a144 hF143; clear hF71
     refine wpList_nil ?_
     have hS145:=hS50.drop
     clear hS50
     exact thenN ⟨false,hF143,hS145,hm142⟩
    rw [hc69] at hF67
    have hm146:=ifNot hc69 hm66; clear hm66
    refine ev_runK 32 hF67 [0] (l':=[(0,.bool false)]) (w':=w48) (by kernel_rfl) ?_
    intro a148 hF147; clear hF67
    refine wpList_nil ?_
    have hS149:=hS50.drop
    clear hS50
    exact thenN ⟨false,hF147,hS149,hm146⟩
   rw [hc65] at hF63
   have hm150:=ifNot hc65 hm47; clear hm47
   refine ev_runK 36 hF63 [0] (l':=[(0,.bool false)]) (w':=w48) (by kernel_rfl) ?_
   intro a152 hF151; clear hF63
   refine wpList_nil ?_
   have hS153:=hS50.drop
   clear hS50
   exact thenN ⟨false,hF151,hS153,hm150⟩
def ArenaPlays.j67 (x201:Int) (rec204:Int→Option (Bool)) (y265:Bool):Option (Bool):=(if (y265) then some (false) else rec204 (IntKind.i64.wrap (x201+1)))
def ArenaPlays.l66b (s144:ASt) (s145:ASt) (x186:Int) (rec189:Int→Option (Bool)) (rec204:Int→Option (Bool)) (x201:Int):Option (Bool):=(if (inR x186 (hObjsF s144).length) then (if (decide (x201≤(aLen s144.c (atI (hObjsF s144) x186)))) then bind2 (rLoad (atI (hObjsF s144) x186) x201 s145) fun x236 x237=>bind2 (rLoad (atI (hObjsF s144) x186) x201 s144) fun x255 x256=>(if (x236 != x255) then ArenaPlays.j67 x201 rec204 true else (if (x237 != x256) then ArenaPlays.j67 x201 rec204 true else ArenaPlays.j67 x201 rec204 ((aKind s145.c (atI (hObjsF s144) x186)) != (aKind s144.c (atI (hObjsF s144) x186))))) else rec189 (IntKind.i64.wrap (x186+1))) else none)
def ArenaPlays.l66 (s144:ASt) (s145:ASt) (x186:Int) (rec189:Int→Option (Bool)):Nat→Int→Option (Bool)
  | 0=>fun _=>none
  | kI+1=>ArenaPlays.l66b s144 s145 x186 rec189 (ArenaPlays.l66 s144 s145 x186 rec189 kI)
def ArenaPlays.j68 (x58:Int) (rec61:ASt→ASt→Int→Option (Bool)) (s144:ASt) (s145:ASt) (y359:Bool):Option (Bool):=(if (y359) then some (false) else rec61 s144 s145 (IntKind.i64.wrap (x58+1)))
def ArenaPlays.l63b (K1:List Op07) (k:Nat) (x58:Int) (rec61:ASt→ASt→Int→Option (Bool)) (x119:Int) (s144:ASt) (s145:ASt) (rec189:Int→Option (Bool)) (x186:Int):Option (Bool):=(if (decide (x186<((hObjsF s144).length:Int))) then ArenaPlays.l66 s144 s145 x186 rec189 k (-1) else bind2 (rLoad x119 ((atX kOp07 K1 x58).i) s145) fun x328 x329=>bind2 (rLoad x119 ((atX kOp07 K1 x58).i) s144) fun x348 x349=>(if (x328 != x348) then ArenaPlays.j68 x58 rec61 s144 s145 true else ArenaPlays.j68 x58 rec61 s144 s145 (x329 != x349)))
def ArenaPlays.l63 (K1:List Op07) (k:Nat) (x58:Int) (rec61:ASt→ASt→Int→Option (Bool)) (x119:Int) (s144:ASt) (s145:ASt):Nat→Int→Option (Bool)
  | 0=>fun _=>none
  | kI+1=>ArenaPlays.l63b K1 k x58 rec61 x119 s144 s145 (ArenaPlays.l63 K1 k x58 rec61 x119 s144 s145 kI)
def ArenaPlays.j54 (K1:List Op07) (k:Nat) (x58:Int) (rec61:ASt→ASt→Int→Option (Bool)) (x119:Int) (s144:ASt) (s145:ASt) (y168:Bool):Option (Bool):=(if (y168) then some (false) else ArenaPlays.l63 K1 k x58 rec61 x119 s144 s145 k 0)
def ArenaPlays.j53 (K1:List Op07) (k:Nat) (x58:Int) (rec61:ASt→ASt→Int→Option (Bool)) (x119:Int) (s144:ASt) (s145:ASt) (y146:Bool):Option (Bool):=(if (!(y146)) then ArenaPlays.j54 K1 k x58 rec61 x119 s144 s145 true else bind1 (help_Plain.m k (hObjsF s145) (hObjsF s144)) fun y409=>(if (!(y409)) then ArenaPlays.j54 K1 k x58 rec61 x119 s144 s145 true else (if ((sWords s145.l) != (sWords s144.l)) then ArenaPlays.j54 K1 k x58 rec61 x119 s144 s145 true else (if ((s145.c.length:Int) != ((s144.c.length:Nat):Int)) then ArenaPlays.j54 K1 k x58 rec61 x119 s144 s145 true else (if ((aKind s145.c x119) != (aKind s144.c x119)) then ArenaPlays.j54 K1 k x58 rec61 x119 s144 s145 true else ArenaPlays.j54 K1 k x58 rec61 x119 s144 s145 ((aLen s145.c x119) != (aLen s144.c x119)))))))
def ArenaPlays.j70 (K1:List Op07) (k:Nat) (x58:Int) (rec61:ASt→ASt→Int→Option (Bool)) (x119:Int) (s534:ASt) (s535:ASt) (y536:Bool):Option (Bool):=ArenaPlays.j53 K1 k x58 rec61 x119 s534 s535 y536
def ArenaPlays.j71 (K1:List Op07) (k:Nat) (x58:Int) (rec61:ASt→ASt→Int→Option (Bool)) (x119:Int) (s581:ASt) (s601:ASt) (y610:Bool):Option (Bool):=ArenaPlays.j70 K1 k x58 rec61 x119 s601 s581 y610
def ArenaPlays.j69 (K1:List Op07) (k:Nat) (s56:ASt) (s57:ASt) (x58:Int) (rec61:ASt→ASt→Int→Option (Bool)) (x119:Int) (y526:Bool):Option (Bool):=(if (y526) then bind2 (rStore x119 ((atX kOp07 K1 x58).i) ((atX kOp07 K1 x58).w) s57) fun x550 s551=>bind2 (rStore x119 ((atX kOp07 K1 x58).i) ((atX kOp07 K1 x58).w) s56) fun x559 s560=>ArenaPlays.j70 K1 k x58 rec61 x119 s560 s551 (x550 == x559) else bind3 (rAlloc ((atX kOp07 K1 x58).of) ((atX kOp07 K1 x58).n) s57) fun x579 x580 s581=>bind3 (rAlloc ((atX kOp07 K1 x58).of) ((atX kOp07 K1 x58).n) s56) fun x599 x600 s601=>(if (x579 == x599) then ArenaPlays.j71 K1 k x58 rec61 x119 s581 s601 (x580 == x600) else ArenaPlays.j71 K1 k x58 rec61 x119 s581 s601 false))
def ArenaPlays.j52 (K1:List Op07) (k:Nat) (s56:ASt) (s57:ASt) (x58:Int) (rec61:ASt→ASt→Int→Option (Bool)) (x119:Int) (y136:Bool):Option (Bool):=(if (y136) then bind2 (rFree x119 s57) fun x504 s505=>bind2 (rFree x119 s56) fun x513 s514=>ArenaPlays.j53 K1 k x58 rec61 x119 s514 s505 (x504 == x513) else (if (((atX kOp07 K1 x58).kind) == 2) then ArenaPlays.j69 K1 k s56 s57 x58 rec61 x119 true else ArenaPlays.j69 K1 k s56 s57 x58 rec61 x119 (((atX kOp07 K1 x58).kind) == 3)))
def ArenaPlays.j51 (K1:List Op07) (k:Nat) (s56:ASt) (s57:ASt) (x58:Int) (rec61:ASt→ASt→Int→Option (Bool)) (x119:Int):Option (Bool):=(if (((atX kOp07 K1 x58).kind) == 1) then ArenaPlays.j52 K1 k s56 s57 x58 rec61 x119 true else ArenaPlays.j52 K1 k s56 s57 x58 rec61 x119 (((atX kOp07 K1 x58).kind) == 4))
def ArenaPlays.j50 (K1:List Op07) (k:Nat) (s56:ASt) (s57:ASt) (x58:Int) (rec61:ASt→ASt→Int→Option (Bool)) (y111:Bool):Option (Bool):=(if (y111) then (if ((IntKind.u64.wrap ((hObjsF s56).length:Int)) == 0) then none else (if (inR (IntKind.i64.wrap (Int.tmod (IntKind.u64.wrap ((atX kOp07 K1 x58).at')) (IntKind.u64.wrap ((hObjsF s56).length:Int)))) (hObjsF s56).length) then ArenaPlays.j51 K1 k s56 s57 x58 rec61 (atI (hObjsF s56) (IntKind.i64.wrap (Int.tmod (IntKind.u64.wrap ((atX kOp07 K1 x58).at')) (IntKind.u64.wrap ((hObjsF s56).length:Int))))) else none)) else ArenaPlays.j51 K1 k s56 s57 x58 rec61 ((atX kOp07 K1 x58).at'))
def ArenaPlays.j49 (K1:List Op07) (k:Nat) (s56:ASt) (s57:ASt) (x58:Int) (rec61:ASt→ASt→Int→Option (Bool)) (y66:Bool):Option (Bool):=(if (y66) then (if (inR x58 K1.length) then (if (((atX kOp07 K1 x58).kind) == 3) then ArenaPlays.j50 K1 k s56 s57 x58 rec61 (decide (((hObjsF s56).length:Int) > 0)) else (if (((atX kOp07 K1 x58).kind) == 4) then ArenaPlays.j50 K1 k s56 s57 x58 rec61 (decide (((hObjsF s56).length:Int) > 0)) else ArenaPlays.j50 K1 k s56 s57 x58 rec61 false)) else none) else some (true))
def ArenaPlays.l48b (K1:List Op07) (k:Nat) (rec61:ASt→ASt→Int→Option (Bool)) (s56:ASt) (s57:ASt) (x58:Int):Option (Bool):=(if (decide (x58<(K1.length:Int))) then ArenaPlays.j49 K1 k s56 s57 x58 rec61 (decide (x58<60)) else ArenaPlays.j49 K1 k s56 s57 x58 rec61 false)
def ArenaPlays.l48 (K1:List Op07) (k:Nat):Nat→ASt→ASt→Int→Option (Bool)
  | 0=>fun _ _ _=>none
  | kI+1=>ArenaPlays.l48b K1 k (ArenaPlays.l48 K1 k kI)
def ArenaPlays.j1 (K1:List Op07) (k:Nat) (s12:ASt) (s25:ASt) (y38:Bool):Option (Bool):=(if (y38) then some (false) else ArenaPlays.l48 K1 k k s25 s12 0)
def ArenaPlays.m (k:Nat) (i0:Int) (K1:List Op07):Option (Bool):=bind1 (some (IntKind.i64.wrap (2+(IntKind.i64.wrap (Int.tmod (IntKind.u64.wrap i0) 6))))) fun x5=>bind1 (rNew x5) fun s12=>bind1 (rNew x5) fun s25=>bind1 (law07_awake.m k ) fun y710=>(if (!(y710)) then ArenaPlays.j1 K1 k s12 s25 true else ArenaPlays.j1 K1 k s12 s25 false)
set_option maxRecDepth 100000 in
set_option maxHeartbeats 40000000 in
theorem ArenaPlays.ok {w0 w:World} {ps:List Piece} {k:Nat} {i0:Int} {pa1:Option Addr} {ca1:Nat} {K1:List Op07} (hA1:ArgX kOp07 w0 (.slice pa1 K1.length ca1) K1) {r0:Bool} (hS:St w0 [] (ps) w) (hm:ArenaPlays.m k i0 K1=some r0) :
    Calls Try.prog 4 #[nI i0,.slice pa1 K1.length ca1] w fun e w'=>e=.returned (.bool r0)∧St w0 [] (ps) w':=by
 refine ev_enterL 292 [nI i0,.slice pa1 K1.length ca1] Try.func4 rfl rfl (by simp) ?_
 intro a hF
 have hF0:Fr 292 a [(0,nI i0),(1,.slice pa1 K1.length ca1)]:=hF; clear hF
 unfold ArenaPlays.m at hm
 refine wp_seq (wp_region_lit ?_)
 refine ev_runK 1 hF0 [0,1] (l':=[(0,nI i0),(1,.slice pa1 K1.length ca1)]) (w':=w) (by kernel_rfl) ?_
 intro a2 hF1; clear hF0
 refine wpList_nil (thenN (wp_seq (wp_region_lit ?_)))
 refine ev_runs 6 hF1 (l':=[(0,nI (IntKind.i64.wrap (2+(IntKind.i64.wrap (Int.tmod (IntKind.u64.wrap i0) 6))))),(31,nI (IntKind.i64.wrap (2+(IntKind.i64.wrap (Int.tmod (IntKind.u64.wrap i0) 6))))),(30,nI (IntKind.i64.wrap (Int.tmod (IntKind.u64.wrap i0) 6))),(29,.int .u64 (Int.tmod (IntKind.u64.wrap i0) 6)),(28,.int .u64 (IntKind.u64.wrap i0)),(27,nI i0),(1,.slice pa1 K1.length ca1)]) (w':=w) (by kernel_rfl) ?_
 intro a4 hF3; clear hF1
 obtain ⟨x5,hx6,hm7⟩:=bind1E hm; clear hm
 have hF8:=hF3; rw [Option.some.inj hx6] at hF8; clear hF3
 refine wpList_nil ?_
 have hF9:=hF8.keep [0,1]
 clear hF8
 refine thenN (wp_seq (wp_region_lit ?_))
 refine ev_runs 1 hF9 (l':=[(33,nI x5),(0,nI x5),(1,.slice pa1 K1.length ca1)]) (w':=w) (by kernel_rfl) ?_
 intro a11 hF10; clear hF9
 refine ev_call 15 #[nI x5] hF10 rfl rfl (by kernel_rfl) rfl (by kernel_rfl) (fun w=>by kernel_rfl) ?_
 obtain ⟨s12,hx13,hm14⟩:=bind1E hm7; clear hm7
 refine (r_New hS hx13).mono ?_
 rintro _ w15 ⟨z19,rfl,hS17⟩ a16 hF18; clear hF10 hS
 refine ev_runK 5 hF18 [0,1,5,6] (l':=[(6,nI 0),(5,nP z19 0),(0,nI x5),(1,.slice pa1 K1.length ca1)]) (w':=w15) (by kernel_rfl) ?_
 intro a22 hF21; clear hF18
 refine wpList_nil (thenN (wp_seq (wp_region_lit ?_)))
 refine ev_runs 1 hF21 (l':=[(38,nI x5),(6,nI 0),(5,nP z19 0),(0,nI x5),(1,.slice pa1 K1.length ca1)]) (w':=w15) (by kernel_rfl) ?_
 intro a24 hF23; clear hF21
 refine ev_call 16 #[nI x5] hF23 rfl rfl (by kernel_rfl) rfl (by kernel_rfl) (fun w=>by kernel_rfl) ?_
 obtain ⟨s25,hx26,hm27⟩:=bind1E hm14; clear hm14
 refine (rr_New hS17 hx26).mono ?_
 rintro _ w28 ⟨z32,z33,z34,rfl,hS30⟩ a29 hF31; clear hF23 hS17
 refine ev_runK 5 hF31 [1,5,6,7,8] (l':=[(8,nI 0),(7,nP z32 0),(6,nI 0),(5,nP z19 0),(1,.slice pa1 K1.length ca1)]) (w':=w28) (by kernel_rfl) ?_
 intro a37 hF36; clear hF31
 refine wpList_nil (thenN (wp_seq (wp_seq ?_)))
 refine joinQ (fun aI wI=>∃ (y38:Bool),Fr 292 aI [(52,.bool (y38)),(7,nP z32 0),(5,nP z19 0),(1,.slice pa1 K1.length ca1)]∧St w0 [] (RArenaP z32 z33 z34 s25::ArenaP z19 s12::ps) wI∧ArenaPlays.j1 K1 k s12 s25 y38=some r0) ?_ ?_
 rotate_left
 · rintro a40 w41 ⟨y38,hF42,hS43,hm44⟩
   clear hF36 hS30 hm27
   unfold ArenaPlays.j1 at hm44
   refine thenN ?_
   cases hc46:(y38)
   case true =>
    rw [hc46] at hF42
    have hm47:=ifYes hc46 hm44; clear hm44
    refine ev_condT hF42 rfl rfl ?_
    refine wp_seq (wp_region_lit ?_)
    refine ev_runK 1 hF42 [4] (l':=[(4,.bool false)]) (w':=w41) (by kernel_rfl) ?_
    intro a49 hF48; clear hF42
    refine wpList_nil ?_
    have hS50:=hS43.drop.drop
    clear hS43
    refine thenN ?_
    refine wp_ret ?_
    refine thenR ?_
    obtain rfl:=Option.some.inj hm47
    refine ev_ret hF48 [4] (.bool false) rfl rfl rfl ?_
    exact ⟨rfl,hS50⟩
   rw [hc46] at hF42
   have hm52:=ifNot hc46 hm44; clear hm44
   refine ev_condF hF42 rfl rfl ?_
   refine wp_skip ?_
   have hF53:=hF42.keep [1,5,7]
   clear hF42
   refine thenN (wp_seq (wp_seq (wp_region_lit ?_)))
   refine ev_runs 1 hF53 (l':=[(9,nI 0),(7,nP z32 0),(5,nP z19 0),(1,.slice pa1 K1.length ca1)]) (w':=w41) (by kernel_rfl) ?_
   intro a55 hF54; clear hF53
   refine wpList_nil (thenN ?_)
   refine wp_block ?_
   refine wp_loop_ghost (fun kI aI wI=>∃ (s56:ASt) (s57:ASt) (x58:Int),Fr 292 aI [(9,nI x58),(7,nP z32 0),(5,nP z19 0),(1,.slice pa1 K1.length ca1)]∧St w0 [] (RArenaP z32 z33 z34 s56::ArenaP z19 s57::ps) wI∧ArenaPlays.l48 K1 k kI s56 s57 x58=some r0) k ⟨s25,s12,0,hF54,hS43,hm52⟩ ?_
   rintro k59 a60 w61 ⟨s56,s57,x58,hF62,hS63,hm64⟩
   clear hF54 hS43 hm52
   rcases k59 with _ | k59
   · cases hm64
   have hm65:ArenaPlays.l48b K1 k (ArenaPlays.l48 K1 k k59) s56 s57 x58=some r0:=hm64
   clear hm64
   unfold ArenaPlays.l48b at hm65
   refine wp_seq (wp_seq ?_)
   refine joinQ (fun aI wI=>∃ (y66:Bool),Fr 292 aI [(60,.bool (y66)),(9,nI x58),(7,nP z32 0),(5,nP z19 0),(1,.slice pa1 K1.length ca1)]∧St w0 [] (RArenaP z32 z33 z34 s56::ArenaP z19 s57::ps) wI∧ArenaPlays.j49 K1 k s56 s57 x58 (ArenaPlays.l48 K1 k k59) y66=some r0) ?_ ?_
   rotate_left
   · rintro a68 w69 ⟨y66,hF70,hS71,hm72⟩
     clear hF62 hS63 hm65
     unfold ArenaPlays.j49 at hm72
     refine thenN ?_
     cases hc74:(y66)
     case true =>
      rw [hc74] at hF70
      have hm75:=ifYes hc74 hm72; clear hm72
      refine ev_condT hF70 rfl rfl ?_
      refine wp_skip ?_
      have hF76:=hF70.keep [1,5,7,9]
      clear hF70
      refine thenN (wp_seq ?_)
      refine wp_block ?_
      refine wp_seq (wp_region_lit ?_)
      refine ev_runs 2 hF76 (l':=[(64,nI x58),(63,.slice pa1 K1.length ca1),(9,nI x58),(7,nP z32 0),(5,nP z19 0),(1,.slice pa1 K1.length ca1)]) (w':=w69) (by kernel_rfl) ?_
      intro a78 hF77; clear hF76
      obtain ⟨hc79,hm80⟩:=ifTE hm75; clear hm75
      obtain ⟨b81,o82,rfl⟩:=argKX hA1 hc79
      refine ev_one (nP b81 ((o82+x58.toNat * 6))) w69 hF77 (by kernel_rfl) rfl (by kernel_rfl) (run_idxXO rfl rfl (by kernel_rfl) rfl rfl (inR_spec hc79).1 (inR_spec hc79).2 _) (l':=[(65,nP b81 ((o82+x58.toNat * 6))),(64,nI x58),(63,.slice (some ⟨b81,o82,none⟩) K1.length ca1),(9,nI x58),(7,nP z32 0),(5,nP z19 0),(1,.slice (some ⟨b81,o82,none⟩) K1.length ca1)]) (by kernel_rfl) ?_
      intro a84 hF83; clear hF77
      refine ev_one (.agg #[nI ((atX kOp07 K1 x58).kind),nI ((atX kOp07 K1 x58).of),nI ((atX kOp07 K1 x58).n),nI ((atX kOp07 K1 x58).at'),nI ((atX kOp07 K1 x58).i),nI ((atX kOp07 K1 x58).w)]) w69 hF83 (by kernel_rfl) rfl (by kernel_rfl) (run_loadV rfl rfl (run_loadA (cs:=[nI ((atX kOp07 K1 x58).kind),nI ((atX kOp07 K1 x58).of),nI ((atX kOp07 K1 x58).n),nI ((atX kOp07 K1 x58).at'),nI ((atX kOp07 K1 x58).i),nI ((atX kOp07 K1 x58).w)]) rfl rfl (by kernel_rfl) (argAtX (cs:=[nI ((atX kOp07 K1 x58).kind),nI ((atX kOp07 K1 x58).of),nI ((atX kOp07 K1 x58).n),nI ((atX kOp07 K1 x58).at'),nI ((atX kOp07 K1 x58).i),nI ((atX kOp07 K1 x58).w)]) hA1 hS71 hc79 rfl))) (l':=[(66,.agg #[nI ((atX kOp07 K1 x58).kind),nI ((atX kOp07 K1 x58).of),nI ((atX kOp07 K1 x58).n),nI ((atX kOp07 K1 x58).at'),nI ((atX kOp07 K1 x58).i),nI ((atX kOp07 K1 x58).w)]),(65,nP b81 ((o82+x58.toNat * 6))),(64,nI x58),(63,.slice (some ⟨b81,o82,none⟩) K1.length ca1),(9,nI x58),(7,nP z32 0),(5,nP z19 0),(1,.slice (some ⟨b81,o82,none⟩) K1.length ca1)]) (by kernel_rfl) ?_
      intro a86 hF85; clear hF83
      refine ev_runs 1 hF85 (l':=[(10,nB w69),(66,.agg #[nI ((atX kOp07 K1 x58).kind),nI ((atX kOp07 K1 x58).of),nI ((atX kOp07 K1 x58).n),nI ((atX kOp07 K1 x58).at'),nI ((atX kOp07 K1 x58).i),nI ((atX kOp07 K1 x58).w)]),(65,nP b81 ((o82+x58.toNat * 6))),(64,nI x58),(63,.slice (some ⟨b81,o82,none⟩) K1.length ca1),(9,nI x58),(7,nP z32 0),(5,nP z19 0),(1,.slice (some ⟨b81,o82,none⟩) K1.length ca1)]) (w':=w69.alloc (.cells #[nI 0,nI 0,nI 0,nI 0,nI 0,nI 0] 48)) (by kernel_rfl) ?_
      intro a88 hF87; clear hF85
      have hS90:St w0 [] (BlkP (w69.heap.size) 48 #[nI 0,nI 0,nI 0,nI 0,nI 0,nI 0]::RArenaP z32 z33 z34 s56::ArenaP z19 s57::ps) (w69.alloc (.cells #[nI 0,nI 0,nI 0,nI 0,nI 0,nI 0] 48)):=St.new hS71 #[nI 0,nI 0,nI 0,nI 0,nI 0,nI 0] 48
      clear hS71
      refine ev_store (.agg #[nI ((atX kOp07 K1 x58).kind),nI ((atX kOp07 K1 x58).of),nI ((atX kOp07 K1 x58).n),nI ((atX kOp07 K1 x58).at'),nI ((atX kOp07 K1 x58).i),nI ((atX kOp07 K1 x58).w)]) #[nI ((atX kOp07 K1 x58).kind),nI ((atX kOp07 K1 x58).of),nI ((atX kOp07 K1 x58).n),nI ((atX kOp07 K1 x58).at'),nI ((atX kOp07 K1 x58).i),nI ((atX kOp07 K1 x58).w)] hF87 (by kernel_rfl) rfl rfl rfl rfl (by kernel_rfl) hS90 (by kernel_rfl) (by kernel_rfl) (by kernel_rfl) (l':=[(10,nB w69),(66,.agg #[nI ((atX kOp07 K1 x58).kind),nI ((atX kOp07 K1 x58).of),nI ((atX kOp07 K1 x58).n),nI ((atX kOp07 K1 x58).at'),nI ((atX kOp07 K1 x58).i),nI ((atX kOp07 K1 x58).w)]),(65,nP b81 ((o82+x58.toNat * 6))),(64,nI x58),(63,.slice (some ⟨b81,o82,none⟩) K1.length ca1),(9,nI x58),(7,nP z32 0),(5,nP z19 0),(1,.slice (some ⟨b81,o82,none⟩) K1.length ca1)]) (by kernel_rfl) ?_
      intro w91 a92 hS93 hF94; clear hF87 hS90
      refine wpList_nil ?_
      have hF95:=hF94.keep [1,5,7,9,10]
      clear hF94
      refine thenN (wp_seq (wp_region_lit ?_))
      refine ev_runs 1 hF95 (l':=[(67,nP z32 0),(10,nB w69),(9,nI x58),(7,nP z32 0),(5,nP z19 0),(1,.slice (some ⟨b81,o82,none⟩) K1.length ca1)]) (w':=w91) (by kernel_rfl) ?_
      intro a97 hF96; clear hF95
      have hS98:=hS93.pick1
      clear hS93
      refine ev_call 18 #[nP z32 0] hF96 rfl rfl (by kernel_rfl) rfl (by kernel_rfl) (fun w=>by kernel_rfl) ?_
      refine (rr_Objects hS98).mono ?_
      rintro _ w99 ⟨z103,rfl,hS101⟩ a100 hF102; clear hF96 hS98
      obtain ⟨hl108,p105,c106,rfl,hp107⟩:=St.shape hS101 1 rfl
      refine ev_runK 1 hF102 [1,5,7,9,10,11] (l':=[(11,.slice p105 (hObjsF s56).length c106),(10,nB w69),(9,nI x58),(7,nP z32 0),(5,nP z19 0),(1,.slice (some ⟨b81,o82,none⟩) K1.length ca1)]) (w':=w99) (by kernel_rfl) ?_
      intro a110 hF109; clear hF102
      refine wpList_nil (thenN (wp_seq (wp_seq ?_)))
      refine joinQ (fun aI wI=>∃ (y111:Bool),Fr 292 aI [(81,.bool (y111)),(11,.slice p105 (hObjsF s56).length c106),(10,nB w69),(9,nI x58),(7,nP z32 0),(5,nP z19 0),(1,.slice (some ⟨b81,o82,none⟩) K1.length ca1)]∧St w0 [] (RArenaP z32 z33 z34 s56::RowP (.slice p105 (hObjsF s56).length c106) (hObjsF s56)::BlkP (w69.heap.size) 48 #[nI ((atX kOp07 K1 x58).kind),nI ((atX kOp07 K1 x58).of),nI ((atX kOp07 K1 x58).n),nI ((atX kOp07 K1 x58).at'),nI ((atX kOp07 K1 x58).i),nI ((atX kOp07 K1 x58).w)]::ArenaP z19 s57::ps) wI∧ArenaPlays.j50 K1 k s56 s57 x58 (ArenaPlays.l48 K1 k k59) y111=some r0) ?_ ?_
      rotate_left
      · rintro a113 w114 ⟨y111,hF115,hS116,hm117⟩
        clear hF109 hS101 hm80
        unfold ArenaPlays.j50 at hm117
        refine thenN ?_
        refine joinQ (fun aI wI=>∃ (x119:Int),Fr 292 aI [(10,nB w69),(9,nI x58),(7,nP z32 0),(5,nP z19 0),(1,.slice (some ⟨b81,o82,none⟩) K1.length ca1)]∧St w0 [] (BlkP (w69.heap.size) 48 #[nI ((atX kOp07 K1 x58).kind),nI ((atX kOp07 K1 x58).of),nI ((atX kOp07 K1 x58).n),nI x119,nI ((atX kOp07 K1 x58).i),nI ((atX kOp07 K1 x58).w)]::RArenaP z32 z33 z34 s56::ArenaP z19 s57::ps) wI∧ArenaPlays.j51 K1 k s56 s57 x58 (ArenaPlays.l48 K1 k k59) x119=some r0) ?_ ?_
        rotate_left
        · rintro a121 w122 ⟨x119,hF123,hS124,hm125⟩
          clear hF115 hS116 hm117
          unfold ArenaPlays.j51 at hm125
          refine thenN (wp_seq (wp_region_lit ?_))
          refine ev_runK 1 hF123 [1,5,7,9,10] (l':=[(10,nB w69),(9,nI x58),(7,nP z32 0),(5,nP z19 0),(1,.slice (some ⟨b81,o82,none⟩) K1.length ca1)]) (w':=w122) (by kernel_rfl) ?_
          intro a128 hF127; clear hF123
          refine wpList_nil (thenN (wp_seq (wp_seq (wp_region_lit ?_))))
          refine ev_runs 1 hF127 (l':=[(94,nB w69),(10,nB w69),(9,nI x58),(7,nP z32 0),(5,nP z19 0),(1,.slice (some ⟨b81,o82,none⟩) K1.length ca1)]) (w':=w122) (by kernel_rfl) ?_
          intro a130 hF129; clear hF127
          refine ev_one (nI ((atX kOp07 K1 x58).kind)) w122 hF129 (by kernel_rfl) rfl (by kernel_rfl) (run_loadV rfl rfl (run_loadS rfl rfl (hS124.cell 0 rfl 0 rfl))) (l':=[(95,nI ((atX kOp07 K1 x58).kind)),(94,nB w69),(10,nB w69),(9,nI x58),(7,nP z32 0),(5,nP z19 0),(1,.slice (some ⟨b81,o82,none⟩) K1.length ca1)]) (by kernel_rfl) ?_
          intro a132 hF131; clear hF129
          refine wpList_nil ?_
          have hF133:=hF131.keep [1,5,7,9,10,95]
          clear hF131
          refine thenN ?_
          refine wp_block ?_
          refine wp_seq (wp_seq (wp_region_lit ?_))
          refine ev_runK 2 hF133 [1,5,7,9,10,95,122] (l':=[(122,.bool (((atX kOp07 K1 x58).kind) == 1)),(95,nI ((atX kOp07 K1 x58).kind)),(10,nB w69),(9,nI x58),(7,nP z32 0),(5,nP z19 0),(1,.slice (some ⟨b81,o82,none⟩) K1.length ca1)]) (w':=w122) (by kernel_rfl) ?_
          intro a135 hF134; clear hF133
          refine wpList_nil (thenN ?_)
          refine joinQ (fun aI wI=>∃ (y136:Bool),Fr 292 aI [(122,.bool (y136)),(95,nI ((atX kOp07 K1 x58).kind)),(10,nB w69),(9,nI x58),(7,nP z32 0),(5,nP z19 0),(1,.slice (some ⟨b81,o82,none⟩) K1.length ca1)]∧St w0 [] (BlkP (w69.heap.size) 48 #[nI ((atX kOp07 K1 x58).kind),nI ((atX kOp07 K1 x58).of),nI ((atX kOp07 K1 x58).n),nI x119,nI ((atX kOp07 K1 x58).i),nI ((atX kOp07 K1 x58).w)]::RArenaP z32 z33 z34 s56::ArenaP z19 s57::ps) wI∧ArenaPlays.j52 K1 k s56 s57 x58 (ArenaPlays.l48 K1 k k59) x119 y136=some r0) ?_ ?_
          rotate_left
          · rintro a138 w139 ⟨y136,hF140,hS141,hm142⟩
            clear hF134 hS124 hm125
            unfold ArenaPlays.j52 at hm142
            refine thenN ?_
            refine joinQ (fun aI wI=>∃ (s144:ASt) (s145:ASt) (y146:Bool),Fr 292 aI [(12,.bool (y146)),(10,nB w69),(9,nI x58),(7,nP z32 0),(5,nP z19 0),(1,.slice (some ⟨b81,o82,none⟩) K1.length ca1)]∧St w0 [] (RArenaP z32 z33 z34 s144::ArenaP z19 s145::BlkP (w69.heap.size) 48 #[nI ((atX kOp07 K1 x58).kind),nI ((atX kOp07 K1 x58).of),nI ((atX kOp07 K1 x58).n),nI x119,nI ((atX kOp07 K1 x58).i),nI ((atX kOp07 K1 x58).w)]::ps) wI∧ArenaPlays.j53 K1 k x58 (ArenaPlays.l48 K1 k k59) x119 s144 s145 y146=some r0) ?_ ?_
            rotate_left
            · rintro a148 w149 ⟨s144,s145,y146,hF150,hS151,hm152⟩
              clear hF140 hS141 hm142
              unfold ArenaPlays.j53 at hm152
              refine blockN ?_
              refine thenN (wp_seq (wp_region_lit ?_))
              refine ev_runs 1 hF150 (l':=[(154,nP z32 0),(12,.bool (y146)),(10,nB w69),(9,nI x58),(7,nP z32 0),(5,nP z19 0),(1,.slice (some ⟨b81,o82,none⟩) K1.length ca1)]) (w':=w149) (by kernel_rfl) ?_
              intro a155 hF154; clear hF150
              refine ev_call 18 #[nP z32 0] hF154 rfl rfl (by kernel_rfl) rfl (by kernel_rfl) (fun w=>by kernel_rfl) ?_
              refine (rr_Objects hS151).mono ?_
              rintro _ w156 ⟨z160,rfl,hS158⟩ a157 hF159; clear hF154 hS151
              obtain ⟨hl165,p162,c163,rfl,hp164⟩:=St.shape hS158 1 rfl
              refine ev_runK 1 hF159 [1,5,7,9,10,11,12] (l':=[(11,.slice p162 (hObjsF s144).length c163),(12,.bool (y146)),(10,nB w69),(9,nI x58),(7,nP z32 0),(5,nP z19 0),(1,.slice (some ⟨b81,o82,none⟩) K1.length ca1)]) (w':=w156) (by kernel_rfl) ?_
              intro a167 hF166; clear hF159
              refine wpList_nil (thenN (wp_seq (wp_seq ?_)))
              refine joinQ (fun aI wI=>∃ (y168:Bool),Fr 292 aI [(206,.bool (y168)),(11,.slice p162 (hObjsF s144).length c163),(10,nB w69),(9,nI x58),(7,nP z32 0),(5,nP z19 0),(1,.slice (some ⟨b81,o82,none⟩) K1.length ca1)]∧St w0 [] (RArenaP z32 z33 z34 s144::BlkP (w69.heap.size) 48 #[nI ((atX kOp07 K1 x58).kind),nI ((atX kOp07 K1 x58).of),nI ((atX kOp07 K1 x58).n),nI x119,nI ((atX kOp07 K1 x58).i),nI ((atX kOp07 K1 x58).w)]::RowP (.slice p162 (hObjsF s144).length c163) (hObjsF s144)::ArenaP z19 s145::ps) wI∧ArenaPlays.j54 K1 k x58 (ArenaPlays.l48 K1 k k59) x119 s144 s145 y168=some r0) ?_ ?_
              rotate_left
              · rintro a170 w171 ⟨y168,hF172,hS173,hm174⟩
                clear hF166 hS158 hm152
                unfold ArenaPlays.j54 at hm174
                refine thenN ?_
                cases hc176:(y168)
                case true =>
                 rw [hc176] at hF172
                 have hm177:=ifYes hc176 hm174; clear hm174
                 refine ev_condT hF172 rfl rfl ?_
                 refine wp_seq (wp_region_lit ?_)
                 refine ev_runK 1 hF172 [4] (l':=[(4,.bool false)]) (w':=w171) (by kernel_rfl) ?_
                 intro a179 hF178; clear hF172
                 refine wpList_nil ?_
                 have hS180:=hS173.drop.drop.drop.drop
                 clear hS173
                 refine thenN ?_
                 refine wp_ret ?_
                 refine thenR ?_
                 refine blockR ?_
                 refine thenR (thenR ?_)
                 refine blockR ?_
                 refine thenR ?_
                 obtain rfl:=Option.some.inj hm177
                 refine ev_ret hF178 [4] (.bool false) rfl rfl rfl ?_
                 exact ⟨rfl,hS180⟩
                rw [hc176] at hF172
                have hm182:=ifNot hc176 hm174; clear hm174
                refine ev_condF hF172 rfl rfl ?_
                refine wp_skip ?_
                have hF183:=hF172.keep [1,5,7,9,10,11]
                clear hF172
                refine thenN (wp_seq (wp_seq (wp_region_lit ?_)))
                refine ev_runs 1 hF183 (l':=[(17,nI 0),(11,.slice p162 (hObjsF s144).length c163),(10,nB w69),(9,nI x58),(7,nP z32 0),(5,nP z19 0),(1,.slice (some ⟨b81,o82,none⟩) K1.length ca1)]) (w':=w171) (by kernel_rfl) ?_
                intro a185 hF184; clear hF183
                refine wpList_nil (thenN ?_)
                refine wp_block ?_
                refine wp_loop_ghost (fun kI aI wI=>∃ (x186:Int),Fr 292 aI [(17,nI x186),(11,.slice p162 (hObjsF s144).length c163),(10,nB w69),(9,nI x58),(7,nP z32 0),(5,nP z19 0),(1,.slice (some ⟨b81,o82,none⟩) K1.length ca1)]∧St w0 [] (RArenaP z32 z33 z34 s144::BlkP (w69.heap.size) 48 #[nI ((atX kOp07 K1 x58).kind),nI ((atX kOp07 K1 x58).of),nI ((atX kOp07 K1 x58).n),nI x119,nI ((atX kOp07 K1 x58).i),nI ((atX kOp07 K1 x58).w)]::RowP (.slice p162 (hObjsF s144).length c163) (hObjsF s144)::ArenaP z19 s145::ps) wI∧ArenaPlays.l63 K1 k x58 (ArenaPlays.l48 K1 k k59) x119 s144 s145 kI x186=some r0) k ⟨0,hF184,hS173,hm182⟩ ?_
                rintro k187 a188 w189 ⟨x186,hF190,hS191,hm192⟩
                clear hF184 hS173 hm182
                rcases k187 with _ | k187
                · cases hm192
                have hm193:ArenaPlays.l63b K1 k x58 (ArenaPlays.l48 K1 k k59) x119 s144 s145 (ArenaPlays.l63 K1 k x58 (ArenaPlays.l48 K1 k k59) x119 s144 s145 k187) x186=some r0:=hm192
                clear hm192
                unfold ArenaPlays.l63b at hm193
                refine wp_seq (wp_seq (wp_region_lit ?_))
                refine ev_runK 4 hF190 [1,5,7,9,10,11,17,210] (l':=[(210,.bool (decide (x186<((hObjsF s144).length:Int)))),(17,nI x186),(11,.slice p162 (hObjsF s144).length c163),(10,nB w69),(9,nI x58),(7,nP z32 0),(5,nP z19 0),(1,.slice (some ⟨b81,o82,none⟩) K1.length ca1)]) (w':=w189) (by kernel_rfl) ?_
                intro a195 hF194; clear hF190
                refine wpList_nil (thenN ?_)
                cases hc196:(decide (x186<((hObjsF s144).length:Int)))
                case true =>
                 rw [hc196] at hF194
                 have hm197:=ifYes hc196 hm193; clear hm193
                 refine ev_condT hF194 rfl rfl ?_
                 refine wp_skip ?_
                 have hF198:=hF194.keep [1,5,7,9,10,11,17]
                 clear hF194
                 refine thenN (wp_seq ?_)
                 refine wp_block ?_
                 refine wp_seq (wp_region_lit ?_)
                 refine ev_runs 1 hF198 (l':=[(18,nI (-1)),(17,nI x186),(11,.slice p162 (hObjsF s144).length c163),(10,nB w69),(9,nI x58),(7,nP z32 0),(5,nP z19 0),(1,.slice (some ⟨b81,o82,none⟩) K1.length ca1)]) (w':=w189) (by kernel_rfl) ?_
                 intro a200 hF199; clear hF198
                 refine wpList_nil (thenN ?_)
                 refine wp_block ?_
                 refine wp_loop_ghost (fun kI aI wI=>∃ (x201:Int),Fr 292 aI [(18,nI x201),(17,nI x186),(11,.slice p162 (hObjsF s144).length c163),(10,nB w69),(9,nI x58),(7,nP z32 0),(5,nP z19 0),(1,.slice (some ⟨b81,o82,none⟩) K1.length ca1)]∧St w0 [] (RArenaP z32 z33 z34 s144::BlkP (w69.heap.size) 48 #[nI ((atX kOp07 K1 x58).kind),nI ((atX kOp07 K1 x58).of),nI ((atX kOp07 K1 x58).n),nI x119,nI ((atX kOp07 K1 x58).i),nI ((atX kOp07 K1 x58).w)]::RowP (.slice p162 (hObjsF s144).length c163) (hObjsF s144)::ArenaP z19 s145::ps) wI∧ArenaPlays.l66 s144 s145 x186 (ArenaPlays.l63 K1 k x58 (ArenaPlays.l48 K1 k k59) x119 s144 s145 k187) kI x201=some r0) k ⟨-1,hF199,hS191,hm197⟩ ?_
                 rintro k202 a203 w204 ⟨x201,hF205,hS206,hm207⟩
                 clear hF199 hS191 hm197
                 rcases k202 with _ | k202
                 · cases hm207
                 have hm208:ArenaPlays.l66b s144 s145 x186 (ArenaPlays.l63 K1 k x58 (ArenaPlays.l48 K1 k k59) x119 s144 s145 k187) (ArenaPlays.l66 s144 s145 x186 (ArenaPlays.l63 K1 k x58 (ArenaPlays.l48 K1 k k59) x119 s144 s145 k187) k202) x201=some r0:=hm207
                 clear hm207
                 unfold ArenaPlays.l66b at hm208
                 refine wp_seq (wp_seq (wp_region_lit ?_))
                 refine ev_runs 4 hF205 (l':=[(216,nI x186),(215,.slice p162 (hObjsF s144).length c163),(214,nP z32 0),(213,nI x201),(18,nI x201),(17,nI x186),(11,.slice p162 (hObjsF s144).length c163),(10,nB w69),(9,nI x58),(7,nP z32 0),(5,nP z19 0),(1,.slice (some ⟨b81,o82,none⟩) K1.length ca1)]) (w':=w204) (by kernel_rfl) ?_
                 intro a210 hF209; clear hF205
                 obtain ⟨hc211,hm212⟩:=ifTE hm208; clear hm208
                 obtain ⟨g213,rfl⟩:=hp164.resolve_left (by have:=inR_spec hc211; omega)
                 refine ev_one (nP g213 (x186.toNat)) w204 hF209 (by kernel_rfl) rfl (by kernel_rfl) (run_idx rfl rfl rfl rfl rfl (inR_spec hc211).1 (inR_spec hc211).2 _) (l':=[(217,nP g213 (x186.toNat)),(216,nI x186),(215,.slice (some ⟨g213,0,none⟩) (hObjsF s144).length c163),(214,nP z32 0),(213,nI x201),(18,nI x201),(17,nI x186),(11,.slice (some ⟨g213,0,none⟩) (hObjsF s144).length c163),(10,nB w69),(9,nI x58),(7,nP z32 0),(5,nP z19 0),(1,.slice (some ⟨b81,o82,none⟩) K1.length ca1)]) (by kernel_rfl) ?_
                 intro a215 hF214; clear hF209
                 refine ev_one (nI (atI (hObjsF s144) x186)) w204 hF214 (by kernel_rfl) rfl (by kernel_rfl) (run_load1 rfl rfl rfl (hS206.atI 2 rfl hc211)) (l':=[(218,nI (atI (hObjsF s144) x186)),(217,nP g213 (x186.toNat)),(216,nI x186),(215,.slice (some ⟨g213,0,none⟩) (hObjsF s144).length c163),(214,nP z32 0),(213,nI x201),(18,nI x201),(17,nI x186),(11,.slice (some ⟨g213,0,none⟩) (hObjsF s144).length c163),(10,nB w69),(9,nI x58),(7,nP z32 0),(5,nP z19 0),(1,.slice (some ⟨b81,o82,none⟩) K1.length ca1)]) (by kernel_rfl) ?_
                 intro a217 hF216; clear hF214
                 refine ev_call 33 #[nP z32 0,nI (atI (hObjsF s144) x186)] hF216 rfl rfl (by kernel_rfl) rfl (by kernel_rfl) (fun w=>by kernel_rfl) ?_
                 refine (rr_Len hS206).mono ?_
                 rintro _ w218 ⟨rfl,hS220⟩ a219 hF221; clear hF216 hS206
                 refine ev_runK 1 hF221 [1,5,7,9,10,11,17,18,220] (l':=[(220,.bool (decide (x201≤(aLen s144.c (atI (hObjsF s144) x186))))),(18,nI x201),(17,nI x186),(11,.slice (some ⟨g213,0,none⟩) (hObjsF s144).length c163),(10,nB w69),(9,nI x58),(7,nP z32 0),(5,nP z19 0),(1,.slice (some ⟨b81,o82,none⟩) K1.length ca1)]) (w':=w218) (by kernel_rfl) ?_
                 intro a223 hF222; clear hF221
                 refine wpList_nil (thenN ?_)
                 cases hc224:(decide (x201≤(aLen s144.c (atI (hObjsF s144) x186))))
                 case true =>
                  rw [hc224] at hF222
                  have hm225:=ifYes hc224 hm212; clear hm212
                  refine ev_condT hF222 rfl rfl ?_
                  refine wp_skip ?_
                  have hF226:=hF222.keep [1,5,7,9,10,11,17,18]
                  clear hF222
                  refine thenN (wp_seq ?_)
                  refine wp_block ?_
                  refine wp_seq (wp_region_lit ?_)
                  refine ev_runs 3 hF226 (l':=[(226,nI x186),(225,.slice (some ⟨g213,0,none⟩) (hObjsF s144).length c163),(224,nP z19 0),(18,nI x201),(17,nI x186),(11,.slice (some ⟨g213,0,none⟩) (hObjsF s144).length c163),(10,nB w69),(9,nI x58),(7,nP z32 0),(5,nP z19 0),(1,.slice (some ⟨b81,o82,none⟩) K1.length ca1)]) (w':=w218) (by kernel_rfl) ?_
                  intro a228 hF227; clear hF226
                  refine ev_one (nP g213 (x186.toNat)) w218 hF227 (by kernel_rfl) rfl (by kernel_rfl) (run_idx rfl rfl rfl rfl rfl (inR_spec hc211).1 (inR_spec hc211).2 _) (l':=[(227,nP g213 (x186.toNat)),(226,nI x186),(225,.slice (some ⟨g213,0,none⟩) (hObjsF s144).length c163),(224,nP z19 0),(18,nI x201),(17,nI x186),(11,.slice (some ⟨g213,0,none⟩) (hObjsF s144).length c163),(10,nB w69),(9,nI x58),(7,nP z32 0),(5,nP z19 0),(1,.slice (some ⟨b81,o82,none⟩) K1.length ca1)]) (by kernel_rfl) ?_
                  intro a230 hF229; clear hF227
                  refine ev_one (nI (atI (hObjsF s144) x186)) w218 hF229 (by kernel_rfl) rfl (by kernel_rfl) (run_load1 rfl rfl rfl (hS220.atI 2 rfl hc211)) (l':=[(228,nI (atI (hObjsF s144) x186)),(227,nP g213 (x186.toNat)),(226,nI x186),(225,.slice (some ⟨g213,0,none⟩) (hObjsF s144).length c163),(224,nP z19 0),(18,nI x201),(17,nI x186),(11,.slice (some ⟨g213,0,none⟩) (hObjsF s144).length c163),(10,nB w69),(9,nI x58),(7,nP z32 0),(5,nP z19 0),(1,.slice (some ⟨b81,o82,none⟩) K1.length ca1)]) (by kernel_rfl) ?_
                  intro a232 hF231; clear hF229
                  refine ev_runs 1 hF231 (l':=[(229,nI x201),(228,nI (atI (hObjsF s144) x186)),(227,nP g213 (x186.toNat)),(226,nI x186),(225,.slice (some ⟨g213,0,none⟩) (hObjsF s144).length c163),(224,nP z19 0),(18,nI x201),(17,nI x186),(11,.slice (some ⟨g213,0,none⟩) (hObjsF s144).length c163),(10,nB w69),(9,nI x58),(7,nP z32 0),(5,nP z19 0),(1,.slice (some ⟨b81,o82,none⟩) K1.length ca1)]) (w':=w218) (by kernel_rfl) ?_
                  intro a234 hF233; clear hF231
                  have hS235:=hS220.pick3
                  clear hS220
                  refine ev_call 34 #[nP z19 0,nI (atI (hObjsF s144) x186),nI x201] hF233 rfl rfl (by kernel_rfl) rfl (by kernel_rfl) (fun w=>by kernel_rfl) ?_
                  obtain ⟨x236,x237,hx238,hm239⟩:=bind2E hm225; clear hm225
                  refine (r_Load hS235 hx238).mono ?_
                  rintro _ w240 ⟨rfl,hS242⟩ a241 hF243; clear hF233 hS235
                  refine ev_runK 5 hF243 [1,5,7,9,10,11,17,18,19,20] (l':=[(20,nI x237),(19,nI x236),(18,nI x201),(17,nI x186),(11,.slice (some ⟨g213,0,none⟩) (hObjsF s144).length c163),(10,nB w69),(9,nI x58),(7,nP z32 0),(5,nP z19 0),(1,.slice (some ⟨b81,o82,none⟩) K1.length ca1)]) (w':=w240) (by kernel_rfl) ?_
                  intro a245 hF244; clear hF243
                  refine wpList_nil (thenN (wp_seq (wp_region_lit ?_)))
                  refine ev_runs 3 hF244 (l':=[(236,nI x186),(235,.slice (some ⟨g213,0,none⟩) (hObjsF s144).length c163),(234,nP z32 0),(20,nI x237),(19,nI x236),(18,nI x201),(17,nI x186),(11,.slice (some ⟨g213,0,none⟩) (hObjsF s144).length c163),(10,nB w69),(9,nI x58),(7,nP z32 0),(5,nP z19 0),(1,.slice (some ⟨b81,o82,none⟩) K1.length ca1)]) (w':=w240) (by kernel_rfl) ?_
                  intro a247 hF246; clear hF244
                  refine ev_one (nP g213 (x186.toNat)) w240 hF246 (by kernel_rfl) rfl (by kernel_rfl) (run_idx rfl rfl rfl rfl rfl (inR_spec hc211).1 (inR_spec hc211).2 _) (l':=[(237,nP g213 (x186.toNat)),(236,nI x186),(235,.slice (some ⟨g213,0,none⟩) (hObjsF s144).length c163),(234,nP z32 0),(20,nI x237),(19,nI x236),(18,nI x201),(17,nI x186),(11,.slice (some ⟨g213,0,none⟩) (hObjsF s144).length c163),(10,nB w69),(9,nI x58),(7,nP z32 0),(5,nP z19 0),(1,.slice (some ⟨b81,o82,none⟩) K1.length ca1)]) (by kernel_rfl) ?_
                  intro a249 hF248; clear hF246
                  refine ev_one (nI (atI (hObjsF s144) x186)) w240 hF248 (by kernel_rfl) rfl (by kernel_rfl) (run_load1 rfl rfl rfl (hS242.atI 3 rfl hc211)) (l':=[(238,nI (atI (hObjsF s144) x186)),(237,nP g213 (x186.toNat)),(236,nI x186),(235,.slice (some ⟨g213,0,none⟩) (hObjsF s144).length c163),(234,nP z32 0),(20,nI x237),(19,nI x236),(18,nI x201),(17,nI x186),(11,.slice (some ⟨g213,0,none⟩) (hObjsF s144).length c163),(10,nB w69),(9,nI x58),(7,nP z32 0),(5,nP z19 0),(1,.slice (some ⟨b81,o82,none⟩) K1.length ca1)]) (by kernel_rfl) ?_
                  intro a251 hF250; clear hF248
                  refine ev_runs 1 hF250 (l':=[(239,nI x201),(238,nI (atI (hObjsF s144) x186)),(237,nP g213 (x186.toNat)),(236,nI x186),(235,.slice (some ⟨g213,0,none⟩) (hObjsF s144).length c163),(234,nP z32 0),(20,nI x237),(19,nI x236),(18,nI x201),(17,nI x186),(11,.slice (some ⟨g213,0,none⟩) (hObjsF s144).length c163),(10,nB w69),(9,nI x58),(7,nP z32 0),(5,nP z19 0),(1,.slice (some ⟨b81,o82,none⟩) K1.length ca1)]) (w':=w240) (by kernel_rfl) ?_
                  intro a253 hF252; clear hF250
                  have hS254:=hS242.pick1
                  clear hS242
                  refine ev_call 35 #[nP z32 0,nI (atI (hObjsF s144) x186),nI x201] hF252 rfl rfl (by kernel_rfl) rfl (by kernel_rfl) (fun w=>by kernel_rfl) ?_
                  obtain ⟨x255,x256,hx257,hm258⟩:=bind2E hm239; clear hm239
                  refine (rr_Load hS254 hx257).mono ?_
                  rintro _ w259 ⟨rfl,hS261⟩ a260 hF262; clear hF252 hS254
                  refine ev_runK 5 hF262 [1,5,7,9,10,11,17,18,19,20,21,22] (l':=[(22,nI x256),(21,nI x255),(20,nI x237),(19,nI x236),(18,nI x201),(17,nI x186),(11,.slice (some ⟨g213,0,none⟩) (hObjsF s144).length c163),(10,nB w69),(9,nI x58),(7,nP z32 0),(5,nP z19 0),(1,.slice (some ⟨b81,o82,none⟩) K1.length ca1)]) (w':=w259) (by kernel_rfl) ?_
                  intro a264 hF263; clear hF262
                  refine wpList_nil (thenN (wp_seq ?_))
                  refine joinQ (fun aI wI=>∃ (y265:Bool),Fr 292 aI [(265,.bool (y265)),(18,nI x201),(17,nI x186),(11,.slice (some ⟨g213,0,none⟩) (hObjsF s144).length c163),(10,nB w69),(9,nI x58),(7,nP z32 0),(5,nP z19 0),(1,.slice (some ⟨b81,o82,none⟩) K1.length ca1)]∧St w0 [] (RowP (.slice (some ⟨g213,0,none⟩) (hObjsF s144).length c163) (hObjsF s144)::RArenaP z32 z33 z34 s144::ArenaP z19 s145::BlkP (w69.heap.size) 48 #[nI ((atX kOp07 K1 x58).kind),nI ((atX kOp07 K1 x58).of),nI ((atX kOp07 K1 x58).n),nI x119,nI ((atX kOp07 K1 x58).i),nI ((atX kOp07 K1 x58).w)]::ps) wI∧ArenaPlays.j67 x201 (ArenaPlays.l66 s144 s145 x186 (ArenaPlays.l63 K1 k x58 (ArenaPlays.l48 K1 k k59) x119 s144 s145 k187) k202) y265=some r0) ?_ ?_
                  rotate_left
                  · rintro a267 w268 ⟨y265,hF269,hS270,hm271⟩
                    clear hF263 hS261 hm258
                    unfold ArenaPlays.j67 at hm271
                    refine thenN ?_
                    cases hc273:(y265)
                    case true =>
                     rw [hc273] at hF269
                     have hm274:=ifYes hc273 hm271; clear hm271
                     refine ev_condT hF269 rfl rfl ?_
                     refine wp_seq (wp_region_lit ?_)
                     refine ev_runK 1 hF269 [4] (l':=[(4,.bool false)]) (w':=w268) (by kernel_rfl) ?_
                     intro a276 hF275; clear hF269
                     refine wpList_nil ?_
                     have hS277:=hS270.drop.drop.drop.drop
                     clear hS270
                     refine thenN ?_
                     refine wp_ret ?_
                     refine blockR ?_
                     refine thenR (thenR ?_)
                     refine blockR ?_
                     refine blockR ?_
                     refine thenR (thenR ?_)
                     refine blockR ?_
                     refine thenR ?_
                     refine blockR ?_
                     refine thenR (thenR ?_)
                     refine blockR ?_
                     refine thenR ?_
                     obtain rfl:=Option.some.inj hm274
                     refine ev_ret hF275 [4] (.bool false) rfl rfl rfl ?_
                     exact ⟨rfl,hS277⟩
                    rw [hc273] at hF269
                    have hm279:=ifNot hc273 hm271; clear hm271
                    refine ev_condF hF269 rfl rfl ?_
                    refine wp_skip ?_
                    have hF280:=hF269.keep [1,5,7,9,10,11,17,18]
                    clear hF269
                    refine blockN ?_
                    refine thenN (wp_region_lit ?_)
                    refine ev_runK 3 hF280 [1,5,7,9,10,11,17,18] (l':=[(18,nI (IntKind.i64.wrap (x201+1))),(17,nI x186),(11,.slice (some ⟨g213,0,none⟩) (hObjsF s144).length c163),(10,nB w69),(9,nI x58),(7,nP z32 0),(5,nP z19 0),(1,.slice (some ⟨b81,o82,none⟩) K1.length ca1)]) (w':=w268) (by kernel_rfl) ?_
                    intro a282 hF281; clear hF280
                    refine wpList_nil ?_
                    have hS283:=hS270.pick2.pick1.pick3.pick3
                    clear hS270
                    exact thenN ⟨k202,Nat.lt_succ_self _,IntKind.i64.wrap (x201+1),hF281,hS283,hm279⟩
                  · skip
                    have hS284:=hS261.pick3
                    clear hS261
                    have hS285:=hS284.drew; clear hS284
                    refine any_start (fun wS=>∃ qs,St w0 [] (RowP (.slice (some ⟨g213,0,none⟩) (hObjsF s144).length c163) (hObjsF s144)::qs) wS) 23 #[false,false,false,false,false,false,false,false,false,false,false,false,false,false,false,false,false,false,false,false,false,false,false] (by kernel_rfl) (by kernel_rfl) (by kernel_rfl) ?_
                    refine any_many 4 [(0,some (nI x236)),(1,some (nI x255)),(2,some (.bool (x236 != x255))),(3,some (.bool (x236 != x255)))] [1,5,7,9,10,11,17,18,20,22,246,247,248,249,250,251,252,253,254,255,256,257,258,259,260,261,262,263,264,265] #[true,true,true,true,false,false,false,false,false,false,false,false,false,false,false,false,false,false,false,false,false,false,false] (by rfl) hF263 (by kernel_rfl) (by kernel_rfl) (by exact ⟨fun wS hw=>by kernel_rfl,fun wS hw=>by kernel_rfl,fun wS hw=>by kernel_rfl,fun wS hw=>by kernel_rfl,trivial⟩) (fun _ _ _ _ _ h=>h) ⟨_,hS285⟩ (l':=[(246,.bool (x236 != x255)),(22,nI x256),(20,nI x237),(18,nI x201),(17,nI x186),(11,.slice (some ⟨g213,0,none⟩) (hObjsF s144).length c163),(10,nB w69),(9,nI x58),(7,nP z32 0),(5,nP z19 0),(1,.slice (some ⟨b81,o82,none⟩) K1.length ca1)]) (by kernel_rfl) ?_
                    intro a287 hF286; clear hF263
                    cases hc288:(x236 != x255)
                    case true =>
                     rw [hc288] at hF286
                     have hm289:=ifYes hc288 hm258; clear hm258
                     refine any_many 19 [(4,none),(5,none),(6,none),(7,some (.bool true)),(8,some (.bool true)),(9,none),(10,none),(11,none),(12,none),(13,none),(14,none),(15,none),(16,none),(17,none),(18,none),(19,none),(20,none),(21,none),(22,some (.bool true))] [1,5,7,9,10,11,17,18,265] #[true,true,true,true,true,true,true,true,true,true,true,true,true,true,true,true,true,true,true,true,true,true,true] (by rfl) hF286 (by kernel_rfl) (by kernel_rfl) (by exact (And.intro trivial (And.intro trivial (And.intro trivial (And.intro (fun wS hw=>by kernel_rfl) (And.intro (fun wS hw=>by kernel_rfl) (And.intro trivial (And.intro trivial (And.intro trivial (And.intro trivial (And.intro trivial (And.intro trivial (And.intro trivial (And.intro trivial (And.intro trivial (And.intro trivial (And.intro trivial (And.intro trivial (And.intro trivial (And.intro (fun wS hw=>by kernel_rfl) trivial)))))))))))))))))))) (fun _ _ _ _ _ h=>h) ⟨_,hS285⟩ (l':=[(265,.bool true),(18,nI x201),(17,nI x186),(11,.slice (some ⟨g213,0,none⟩) (hObjsF s144).length c163),(10,nB w69),(9,nI x58),(7,nP z32 0),(5,nP z19 0),(1,.slice (some ⟨b81,o82,none⟩) K1.length ca1)]) (by kernel_rfl) ?_
                     intro a291 hF290; clear hF286
                     refine any_done (by kernel_rfl) ?_
                     exact thenN ⟨true,hF290,hS285,hm289⟩
                    rw [hc288] at hF286
                    have hm292:=ifNot hc288 hm258; clear hm258
                    refine any_many 5 [(4,some (nI x237)),(5,some (nI x256)),(6,some (.bool (x237 != x256))),(7,some (.bool (x237 != x256))),(8,some (.bool (x237 != x256)))] [1,5,7,9,10,11,17,18,251,252,253,254,255,256,257,258,259,260,261,262,263,264,265] #[true,true,true,true,true,true,true,true,true,false,false,false,false,false,false,false,false,false,false,false,false,false,false] (by rfl) hF286 (by kernel_rfl) (by kernel_rfl) (by exact ⟨fun wS hw=>by kernel_rfl,fun wS hw=>by kernel_rfl,fun wS hw=>by kernel_rfl,fun wS hw=>by kernel_rfl,fun wS hw=>by kernel_rfl,trivial⟩) (fun _ _ _ _ _ h=>h) ⟨_,hS285⟩ (l':=[(251,.bool (x237 != x256)),(18,nI x201),(17,nI x186),(11,.slice (some ⟨g213,0,none⟩) (hObjsF s144).length c163),(10,nB w69),(9,nI x58),(7,nP z32 0),(5,nP z19 0),(1,.slice (some ⟨b81,o82,none⟩) K1.length ca1)]) (by kernel_rfl) ?_
                    intro a294 hF293; clear hF286
                    cases hc295:(x237 != x256)
                    case true =>
                     rw [hc295] at hF293
                     have hm296:=ifYes hc295 hm292; clear hm292
                     refine any_many 14 [(9,none),(10,none),(11,none),(12,none),(13,none),(14,none),(15,none),(16,none),(17,none),(18,none),(19,none),(20,none),(21,none),(22,some (.bool true))] [1,5,7,9,10,11,17,18,265] #[true,true,true,true,true,true,true,true,true,true,true,true,true,true,true,true,true,true,true,true,true,true,true] (by rfl) hF293 (by kernel_rfl) (by kernel_rfl) (by exact (And.intro trivial (And.intro trivial (And.intro trivial (And.intro trivial (And.intro trivial (And.intro trivial (And.intro trivial (And.intro trivial (And.intro trivial (And.intro trivial (And.intro trivial (And.intro trivial (And.intro trivial (And.intro (fun wS hw=>by kernel_rfl) trivial))))))))))))))) (fun _ _ _ _ _ h=>h) ⟨_,hS285⟩ (l':=[(265,.bool true),(18,nI x201),(17,nI x186),(11,.slice (some ⟨g213,0,none⟩) (hObjsF s144).length c163),(10,nB w69),(9,nI x58),(7,nP z32 0),(5,nP z19 0),(1,.slice (some ⟨b81,o82,none⟩) K1.length ca1)]) (by kernel_rfl) ?_
                     intro a298 hF297; clear hF293
                     refine any_done (by kernel_rfl) ?_
                     exact thenN ⟨true,hF297,hS285,hm296⟩
                    rw [hc295] at hF293
                    have hm299:=ifNot hc295 hm292; clear hm292
                    refine any_many 10 [(9,some (nP z19 0)),(10,some (.slice (some ⟨g213,0,none⟩) (hObjsF s144).length c163)),(11,some (nI x186)),(12,some (nP g213 (x186.toNat))),(13,some (nI (atI (hObjsF s144) x186))),(15,some (nP z32 0)),(16,some (.slice (some ⟨g213,0,none⟩) (hObjsF s144).length c163)),(17,some (nI x186)),(18,some (nP g213 (x186.toNat))),(19,some (nI (atI (hObjsF s144) x186)))] [1,5,7,9,10,11,17,18,251,252,256,257,258,262,263,264,265] #[true,true,true,true,true,true,true,true,true,true,true,true,true,true,false,true,true,true,true,true,false,false,false] (by rfl) hF293 (by kernel_rfl) (by kernel_rfl) (by exact ⟨fun wS hw=>by kernel_rfl,fun wS hw=>by kernel_rfl,fun wS hw=>by kernel_rfl,fun wS hw=>run_idx rfl rfl rfl rfl rfl (inR_spec hc211).1 (inR_spec hc211).2 _,fun wS hw=>run_load1 rfl rfl rfl (hw.elim fun qs hw=>hw.atI 0 rfl hc211),fun wS hw=>by kernel_rfl,fun wS hw=>by kernel_rfl,fun wS hw=>by kernel_rfl,fun wS hw=>run_idx rfl rfl rfl rfl rfl (inR_spec hc211).1 (inR_spec hc211).2 _,fun wS hw=>run_load1 rfl rfl rfl (hw.elim fun qs hw=>hw.atI 0 rfl hc211),trivial⟩) (fun _ _ _ _ _ h=>h) ⟨_,hS285⟩ (l':=[(262,nI (atI (hObjsF s144) x186)),(258,nP z32 0),(256,nI (atI (hObjsF s144) x186)),(252,nP z19 0),(251,.bool false),(18,nI x201),(17,nI x186),(11,.slice (some ⟨g213,0,none⟩) (hObjsF s144).length c163),(10,nB w69),(9,nI x58),(7,nP z32 0),(5,nP z19 0),(1,.slice (some ⟨b81,o82,none⟩) K1.length ca1)]) (by kernel_rfl) ?_
                    intro a301 hF300; clear hF293
                    have hS302:=hS285.pick2
                    clear hS285
                    refine any_call 14 #[true,true,true,true,true,true,true,true,true,true,true,true,true,true,true,true,true,true,true,true,false,false,false] 30 #[nP z19 0,nI (atI (hObjsF s144) x186)] hF300 rfl (by kernel_rfl) rfl rfl (by kernel_rfl) rfl (by kernel_rfl) (fun w=>by kernel_rfl) (by kernel_rfl) ?_
                    refine (r_Kind hS302).mono ?_
                    rintro _ w303 ⟨rfl,hS305⟩; clear hS302
                    refine ⟨⟨_,hS305.pick1⟩,?_⟩
                    intro a304 hF306; clear hF300
                    have hS307:=hS305.pick2
                    clear hS305
                    refine any_call 20 #[true,true,true,true,true,true,true,true,true,true,true,true,true,true,true,true,true,true,true,true,true,false,false] 31 #[nP z32 0,nI (atI (hObjsF s144) x186)] hF306 rfl (by kernel_rfl) rfl rfl (by kernel_rfl) rfl (by kernel_rfl) (fun w=>by kernel_rfl) (by kernel_rfl) ?_
                    refine (rr_Kind hS307).mono ?_
                    rintro _ w308 ⟨rfl,hS310⟩; clear hS307
                    refine ⟨⟨_,hS310.pick2⟩,?_⟩
                    intro a309 hF311; clear hF306
                    refine any_many 2 [(21,some (.bool ((aKind s145.c (atI (hObjsF s144) x186)) != (aKind s144.c (atI (hObjsF s144) x186))))),(22,some (.bool ((aKind s145.c (atI (hObjsF s144) x186)) != (aKind s144.c (atI (hObjsF s144) x186)))))] [1,5,7,9,10,11,17,18,265] #[true,true,true,true,true,true,true,true,true,true,true,true,true,true,true,true,true,true,true,true,true,true,true] (by rfl) hF311 (by kernel_rfl) (by kernel_rfl) (by exact ⟨fun wS hw=>by kernel_rfl,fun wS hw=>by kernel_rfl,trivial⟩) (fun _ _ _ _ _ h=>h) ⟨_,hS310.pick2⟩ (l':=[(265,.bool ((aKind s145.c (atI (hObjsF s144) x186)) != (aKind s144.c (atI (hObjsF s144) x186)))),(18,nI x201),(17,nI x186),(11,.slice (some ⟨g213,0,none⟩) (hObjsF s144).length c163),(10,nB w69),(9,nI x58),(7,nP z32 0),(5,nP z19 0),(1,.slice (some ⟨b81,o82,none⟩) K1.length ca1)]) (by kernel_rfl) ?_
                    intro a313 hF312; clear hF311
                    refine any_done (by kernel_rfl) ?_
                    have hS314:=hS310.pick3.pick2.pick2.pick3
                    clear hS310
                    exact thenN ⟨(aKind s145.c (atI (hObjsF s144) x186)) != (aKind s144.c (atI (hObjsF s144) x186)),hF312,hS314,hm299⟩
                 rw [hc224] at hF222
                 have hm315:=ifNot hc224 hm212; clear hm212
                 refine ev_condF hF222 rfl rfl ?_
                 refine wp_exit ?_
                 refine thenE ?_
                 refine thenE ?_
                 refine blockE ?_
                 refine blockN ?_
                 refine thenN (wp_region_lit ?_)
                 refine ev_runK 3 hF222 [1,5,7,9,10,11,17] (l':=[(17,nI (IntKind.i64.wrap (x186+1))),(11,.slice (some ⟨g213,0,none⟩) (hObjsF s144).length c163),(10,nB w69),(9,nI x58),(7,nP z32 0),(5,nP z19 0),(1,.slice (some ⟨b81,o82,none⟩) K1.length ca1)]) (w':=w218) (by kernel_rfl) ?_
                 intro a317 hF316; clear hF222
                 refine wpList_nil ?_
                 exact thenN ⟨k187,Nat.lt_succ_self _,IntKind.i64.wrap (x186+1),hF316,hS220,hm315⟩
                rw [hc196] at hF194
                have hm318:=ifNot hc196 hm193; clear hm193
                refine ev_condF hF194 rfl rfl ?_
                refine wp_exit ?_
                refine thenE ?_
                refine thenE ?_
                refine blockE ?_
                refine thenN (wp_seq (wp_region_lit ?_))
                refine ev_runs 2 hF194 (l':=[(268,nP (w69.heap.size) 3),(267,nP z19 0),(210,.bool false),(17,nI x186),(11,.slice p162 (hObjsF s144).length c163),(10,nB w69),(9,nI x58),(7,nP z32 0),(5,nP z19 0),(1,.slice (some ⟨b81,o82,none⟩) K1.length ca1)]) (w':=w189) (by kernel_rfl) ?_
                intro a320 hF319; clear hF194
                refine ev_one (nI x119) w189 hF319 (by kernel_rfl) rfl (by kernel_rfl) (run_loadV rfl rfl (run_loadS rfl rfl (hS191.cell 1 rfl 3 rfl))) (l':=[(269,nI x119),(268,nP (w69.heap.size) 3),(267,nP z19 0),(210,.bool false),(17,nI x186),(11,.slice p162 (hObjsF s144).length c163),(10,nB w69),(9,nI x58),(7,nP z32 0),(5,nP z19 0),(1,.slice (some ⟨b81,o82,none⟩) K1.length ca1)]) (by kernel_rfl) ?_
                intro a322 hF321; clear hF319
                refine ev_runs 1 hF321 (l':=[(270,nP (w69.heap.size) 4),(269,nI x119),(268,nP (w69.heap.size) 3),(267,nP z19 0),(210,.bool false),(17,nI x186),(11,.slice p162 (hObjsF s144).length c163),(10,nB w69),(9,nI x58),(7,nP z32 0),(5,nP z19 0),(1,.slice (some ⟨b81,o82,none⟩) K1.length ca1)]) (w':=w189) (by kernel_rfl) ?_
                intro a324 hF323; clear hF321
                refine ev_one (nI ((atX kOp07 K1 x58).i)) w189 hF323 (by kernel_rfl) rfl (by kernel_rfl) (run_loadV rfl rfl (run_loadS rfl rfl (hS191.cell 1 rfl 4 rfl))) (l':=[(271,nI ((atX kOp07 K1 x58).i)),(270,nP (w69.heap.size) 4),(269,nI x119),(268,nP (w69.heap.size) 3),(267,nP z19 0),(210,.bool false),(17,nI x186),(11,.slice p162 (hObjsF s144).length c163),(10,nB w69),(9,nI x58),(7,nP z32 0),(5,nP z19 0),(1,.slice (some ⟨b81,o82,none⟩) K1.length ca1)]) (by kernel_rfl) ?_
                intro a326 hF325; clear hF323
                have hS327:=hS191.pick3
                clear hS191
                refine ev_call 34 #[nP z19 0,nI x119,nI ((atX kOp07 K1 x58).i)] hF325 rfl rfl (by kernel_rfl) rfl (by kernel_rfl) (fun w=>by kernel_rfl) ?_
                obtain ⟨x328,x329,hx330,hm331⟩:=bind2E hm318; clear hm318
                refine (r_Load hS327 hx330).mono ?_
                rintro _ w332 ⟨rfl,hS334⟩ a333 hF335; clear hF325 hS327
                refine ev_runK 5 hF335 [1,5,7,9,10,23,24] (l':=[(24,nI x329),(23,nI x328),(10,nB w69),(9,nI x58),(7,nP z32 0),(5,nP z19 0),(1,.slice (some ⟨b81,o82,none⟩) K1.length ca1)]) (w':=w332) (by kernel_rfl) ?_
                intro a337 hF336; clear hF335
                refine wpList_nil ?_
                have hS338:=hS334.pick3.drop
                clear hS334
                refine thenN (wp_seq (wp_region_lit ?_))
                refine ev_runs 2 hF336 (l':=[(277,nP (w69.heap.size) 3),(276,nP z32 0),(24,nI x329),(23,nI x328),(10,nB w69),(9,nI x58),(7,nP z32 0),(5,nP z19 0),(1,.slice (some ⟨b81,o82,none⟩) K1.length ca1)]) (w':=w332) (by kernel_rfl) ?_
                intro a340 hF339; clear hF336
                refine ev_one (nI x119) w332 hF339 (by kernel_rfl) rfl (by kernel_rfl) (run_loadV rfl rfl (run_loadS rfl rfl (hS338.cell 2 rfl 3 rfl))) (l':=[(278,nI x119),(277,nP (w69.heap.size) 3),(276,nP z32 0),(24,nI x329),(23,nI x328),(10,nB w69),(9,nI x58),(7,nP z32 0),(5,nP z19 0),(1,.slice (some ⟨b81,o82,none⟩) K1.length ca1)]) (by kernel_rfl) ?_
                intro a342 hF341; clear hF339
                refine ev_runs 1 hF341 (l':=[(279,nP (w69.heap.size) 4),(278,nI x119),(277,nP (w69.heap.size) 3),(276,nP z32 0),(24,nI x329),(23,nI x328),(10,nB w69),(9,nI x58),(7,nP z32 0),(5,nP z19 0),(1,.slice (some ⟨b81,o82,none⟩) K1.length ca1)]) (w':=w332) (by kernel_rfl) ?_
                intro a344 hF343; clear hF341
                refine ev_one (nI ((atX kOp07 K1 x58).i)) w332 hF343 (by kernel_rfl) rfl (by kernel_rfl) (run_loadV rfl rfl (run_loadS rfl rfl (hS338.cell 2 rfl 4 rfl))) (l':=[(280,nI ((atX kOp07 K1 x58).i)),(279,nP (w69.heap.size) 4),(278,nI x119),(277,nP (w69.heap.size) 3),(276,nP z32 0),(24,nI x329),(23,nI x328),(10,nB w69),(9,nI x58),(7,nP z32 0),(5,nP z19 0),(1,.slice (some ⟨b81,o82,none⟩) K1.length ca1)]) (by kernel_rfl) ?_
                intro a346 hF345; clear hF343
                have hS347:=hS338.pick1
                clear hS338
                refine ev_call 35 #[nP z32 0,nI x119,nI ((atX kOp07 K1 x58).i)] hF345 rfl rfl (by kernel_rfl) rfl (by kernel_rfl) (fun w=>by kernel_rfl) ?_
                obtain ⟨x348,x349,hx350,hm351⟩:=bind2E hm331; clear hm331
                refine (rr_Load hS347 hx350).mono ?_
                rintro _ w352 ⟨rfl,hS354⟩ a353 hF355; clear hF345 hS347
                refine ev_runK 5 hF355 [1,5,7,9,23,24,25,26] (l':=[(26,nI x349),(25,nI x348),(24,nI x329),(23,nI x328),(9,nI x58),(7,nP z32 0),(5,nP z19 0),(1,.slice (some ⟨b81,o82,none⟩) K1.length ca1)]) (w':=w352) (by kernel_rfl) ?_
                intro a357 hF356; clear hF355
                refine wpList_nil ?_
                have hS358:=hS354.pick2.drop
                clear hS354
                refine thenN (wp_seq ?_)
                refine joinQ (fun aI wI=>∃ (y359:Bool),Fr 292 aI [(291,.bool (y359)),(9,nI x58),(7,nP z32 0),(5,nP z19 0),(1,.slice (some ⟨b81,o82,none⟩) K1.length ca1)]∧St w0 [] (RArenaP z32 z33 z34 s144::ArenaP z19 s145::ps) wI∧ArenaPlays.j68 x58 (ArenaPlays.l48 K1 k k59) s144 s145 y359=some r0) ?_ ?_
                rotate_left
                · rintro a361 w362 ⟨y359,hF363,hS364,hm365⟩
                  clear hF356 hS358 hm351
                  unfold ArenaPlays.j68 at hm365
                  refine thenN ?_
                  cases hc367:(y359)
                  case true =>
                   rw [hc367] at hF363
                   have hm368:=ifYes hc367 hm365; clear hm365
                   refine ev_condT hF363 rfl rfl ?_
                   refine wp_seq (wp_region_lit ?_)
                   refine ev_runK 1 hF363 [4] (l':=[(4,.bool false)]) (w':=w362) (by kernel_rfl) ?_
                   intro a370 hF369; clear hF363
                   refine wpList_nil ?_
                   have hS371:=hS364.drop.drop
                   clear hS364
                   refine thenN ?_
                   refine wp_ret ?_
                   refine blockR ?_
                   refine thenR (thenR ?_)
                   refine blockR ?_
                   refine thenR ?_
                   obtain rfl:=Option.some.inj hm368
                   refine ev_ret hF369 [4] (.bool false) rfl rfl rfl ?_
                   exact ⟨rfl,hS371⟩
                  rw [hc367] at hF363
                  have hm373:=ifNot hc367 hm365; clear hm365
                  refine ev_condF hF363 rfl rfl ?_
                  refine wp_skip ?_
                  have hF374:=hF363.keep [1,5,7,9]
                  clear hF363
                  refine blockN ?_
                  refine thenN (wp_region_lit ?_)
                  refine ev_runK 3 hF374 [1,5,7,9] (l':=[(9,nI (IntKind.i64.wrap (x58+1))),(7,nP z32 0),(5,nP z19 0),(1,.slice (some ⟨b81,o82,none⟩) K1.length ca1)]) (w':=w362) (by kernel_rfl) ?_
                  intro a376 hF375; clear hF374
                  refine wpList_nil ?_
                  exact thenN ⟨k59,Nat.lt_succ_self _,s144,s145,IntKind.i64.wrap (x58+1),hF375,hS364,hm373⟩
                · skip
                  refine wp_region_lit ?_
                  refine ev_runs 4 hF356 (l':=[(287,.bool (x328 != x348)),(286,.bool (x328 != x348)),(285,nI x348),(284,nI x328),(26,nI x349),(25,nI x348),(24,nI x329),(23,nI x328),(9,nI x58),(7,nP z32 0),(5,nP z19 0),(1,.slice (some ⟨b81,o82,none⟩) K1.length ca1)]) (w':=w352) (by kernel_rfl) ?_
                  intro a378 hF377; clear hF356
                  cases hc379:(x328 != x348)
                  case true =>
                   rw [hc379] at hF377
                   have hm380:=ifYes hc379 hm351; clear hm351
                   refine ev_runK 4 hF377 [1,5,7,9,291] (l':=[(291,.bool true),(9,nI x58),(7,nP z32 0),(5,nP z19 0),(1,.slice (some ⟨b81,o82,none⟩) K1.length ca1)]) (w':=w352) (by kernel_rfl) ?_
                   intro a382 hF381; clear hF377
                   refine wpList_nil ?_
                   exact thenN ⟨true,hF381,hS358,hm380⟩
                  rw [hc379] at hF377
                  have hm383:=ifNot hc379 hm351; clear hm351
                  refine ev_runK 4 hF377 [1,5,7,9,291] (l':=[(291,.bool (x329 != x349)),(9,nI x58),(7,nP z32 0),(5,nP z19 0),(1,.slice (some ⟨b81,o82,none⟩) K1.length ca1)]) (w':=w352) (by kernel_rfl) ?_
                  intro a385 hF384; clear hF377
                  refine wpList_nil ?_
                  exact thenN ⟨x329 != x349,hF384,hS358,hm383⟩
              · skip
                have hS386:=hS158.pick3.pick1
                clear hS158
                have hS387:=hS386.drew; clear hS386
                refine any_start (fun wS=>∃ qs,St w0 [] (RArenaP z32 z33 z34 s144::BlkP (w69.heap.size) 48 #[nI ((atX kOp07 K1 x58).kind),nI ((atX kOp07 K1 x58).of),nI ((atX kOp07 K1 x58).n),nI x119,nI ((atX kOp07 K1 x58).i),nI ((atX kOp07 K1 x58).w)]::qs) wS) 51 #[false,false,false,false,false,false,false,false,false,false,false,false,false,false,false,false,false,false,false,false,false,false,false,false,false,false,false,false,false,false,false,false,false,false,false,false,false,false,false,false,false,false,false,false,false,false,false,false,false,false,false] (by kernel_rfl) (by kernel_rfl) (by kernel_rfl) ?_
                refine any_many 3 [(0,some (.bool (y146))),(1,some (.bool (!(y146)))),(2,some (.bool (!(y146))))] [1,5,7,9,10,11,158,159,160,161,162,163,164,165,166,167,168,169,170,171,172,173,174,175,176,177,178,179,180,181,182,183,184,185,186,187,188,189,190,191,192,193,194,195,196,197,198,199,200,201,202,203,204,205,206] #[true,true,true,false,false,false,false,false,false,false,false,false,false,false,false,false,false,false,false,false,false,false,false,false,false,false,false,false,false,false,false,false,false,false,false,false,false,false,false,false,false,false,false,false,false,false,false,false,false,false,false] (by rfl) hF166 (by kernel_rfl) (by kernel_rfl) (by exact ⟨fun wS hw=>by kernel_rfl,fun wS hw=>by kernel_rfl,fun wS hw=>by kernel_rfl,trivial⟩) (fun _ _ _ _ _ h=>h) ⟨_,hS387⟩ (l':=[(158,.bool (!(y146))),(11,.slice p162 (hObjsF s144).length c163),(10,nB w69),(9,nI x58),(7,nP z32 0),(5,nP z19 0),(1,.slice (some ⟨b81,o82,none⟩) K1.length ca1)]) (by kernel_rfl) ?_
                intro a389 hF388; clear hF166
                cases hc390:(!(y146))
                case true =>
                 rw [hc390] at hF388
                 have hm391:=ifYes hc390 hm152; clear hm152
                 refine any_many 48 [(3,none),(4,none),(5,none),(6,none),(7,none),(8,some (.bool true)),(9,some (.bool true)),(10,none),(11,none),(12,none),(13,none),(14,none),(15,none),(16,none),(17,none),(18,some (.bool true)),(19,some (.bool true)),(20,none),(21,none),(22,none),(23,none),(24,none),(25,none),(26,none),(27,none),(28,some (.bool true)),(29,some (.bool true)),(30,none),(31,none),(32,none),(33,none),(34,none),(35,none),(36,none),(37,none),(38,none),(39,some (.bool true)),(40,some (.bool true)),(41,none),(42,none),(43,none),(44,none),(45,none),(46,none),(47,none),(48,none),(49,none),(50,some (.bool true))] [1,5,7,9,10,11,206] #[true,true,true,true,true,true,true,true,true,true,true,true,true,true,true,true,true,true,true,true,true,true,true,true,true,true,true,true,true,true,true,true,true,true,true,true,true,true,true,true,true,true,true,true,true,true,true,true,true,true,true] (by rfl) hF388 (by kernel_rfl) (by kernel_rfl) (by exact (And.intro trivial (And.intro trivial (And.intro trivial (And.intro trivial (And.intro trivial (And.intro (fun wS hw=>by kernel_rfl) (And.intro (fun wS hw=>by kernel_rfl) (And.intro trivial (And.intro trivial (And.intro trivial (And.intro trivial (And.intro trivial (And.intro trivial (And.intro trivial (And.intro trivial (And.intro (fun wS hw=>by kernel_rfl) (And.intro (fun wS hw=>by kernel_rfl) (And.intro trivial (And.intro trivial (And.intro trivial (And.intro trivial (And.intro trivial (And.intro trivial (And.intro trivial (And.intro trivial (And.intro (fun wS hw=>by kernel_rfl) (And.intro (fun wS hw=>by kernel_rfl) (And.intro trivial (And.intro trivial (And.intro trivial (And.intro trivial (And.intro trivial (And.intro trivial (And.intro trivial (And.intro trivial (And.intro trivial (And.intro (fun wS hw=>by kernel_rfl) (And.intro (fun wS hw=>by kernel_rfl) (And.intro trivial (And.intro trivial (And.intro trivial (And.intro trivial (And.intro trivial (And.intro trivial (And.intro trivial (And.intro trivial (And.intro trivial (And.intro (fun wS hw=>by kernel_rfl) trivial))))))))))))))))))))))))))))))))))))))))))))))))) (fun _ _ _ _ _ h=>h) ⟨_,hS387⟩ (l':=[(206,.bool true),(11,.slice p162 (hObjsF s144).length c163),(10,nB w69),(9,nI x58),(7,nP z32 0),(5,nP z19 0),(1,.slice (some ⟨b81,o82,none⟩) K1.length ca1)]) (by kernel_rfl) ?_
                 intro a393 hF392; clear hF388
                 refine any_done (by kernel_rfl) ?_
                 exact thenN ⟨true,hF392,hS387,hm391⟩
                rw [hc390] at hF388
                have hm394:=ifNot hc390 hm152; clear hm152
                refine any_many 2 [(3,some (nP z19 0)),(5,some (.slice p162 (hObjsF s144).length c163))] [1,5,7,9,10,11,158,159,160,161,162,163,164,165,166,167,168,169,170,171,172,173,174,175,176,177,178,179,180,181,182,183,184,185,186,187,188,189,190,191,192,193,194,195,196,197,198,199,200,201,202,203,204,205,206] #[true,true,true,true,false,true,false,false,false,false,false,false,false,false,false,false,false,false,false,false,false,false,false,false,false,false,false,false,false,false,false,false,false,false,false,false,false,false,false,false,false,false,false,false,false,false,false,false,false,false,false] (by rfl) hF388 (by kernel_rfl) (by kernel_rfl) (by exact ⟨fun wS hw=>by kernel_rfl,fun wS hw=>by kernel_rfl,trivial⟩) (fun _ _ _ _ _ h=>h) ⟨_,hS387⟩ (l':=[(161,.slice p162 (hObjsF s144).length c163),(159,nP z19 0),(158,.bool false),(11,.slice p162 (hObjsF s144).length c163),(10,nB w69),(9,nI x58),(7,nP z32 0),(5,nP z19 0),(1,.slice (some ⟨b81,o82,none⟩) K1.length ca1)]) (by kernel_rfl) ?_
                intro a396 hF395; clear hF388
                have hS397:=hS387.pick3
                clear hS387
                refine any_call 4 #[true,true,true,true,true,true,false,false,false,false,false,false,false,false,false,false,false,false,false,false,false,false,false,false,false,false,false,false,false,false,false,false,false,false,false,false,false,false,false,false,false,false,false,false,false,false,false,false,false,false,false] 26 #[nP z19 0] hF395 rfl (by kernel_rfl) rfl rfl (by kernel_rfl) rfl (by kernel_rfl) (fun w=>by kernel_rfl) (by kernel_rfl) ?_
                refine (r_Objects hS397).mono ?_
                rintro _ w398 ⟨z402,rfl,hS400⟩; clear hS397
                obtain ⟨hl407,p404,c405,rfl,hp406⟩:=St.shape hS400 1 rfl
                refine ⟨⟨_,hS400.pick3.pick3⟩,?_⟩
                intro a399 hF401; clear hF395
                have hS408:=hS400.pick4.pick2
                clear hS400
                refine any_call 6 #[true,true,true,true,true,true,true,false,false,false,false,false,false,false,false,false,false,false,false,false,false,false,false,false,false,false,false,false,false,false,false,false,false,false,false,false,false,false,false,false,false,false,false,false,false,false,false,false,false,false,false] 25 #[.slice p404 (hObjsF s145).length c405,.slice p162 (hObjsF s144).length c163] hF401 rfl (by kernel_rfl) rfl rfl (by kernel_rfl) rfl (by kernel_rfl) (fun w=>by kernel_rfl) (by kernel_rfl) ?_
                obtain ⟨y409,hx410,hm411⟩:=bind1E hm394; clear hm394
                refine (help_Plain.ok hS408 hx410).mono ?_
                rintro _ w412 ⟨rfl,hS414⟩; clear hS408
                refine ⟨⟨_,hS414.pick4.pick4⟩,?_⟩
                intro a413 hF415; clear hF401
                refine any_many 3 [(7,some (.bool (!(y409)))),(8,some (.bool (!(y409)))),(9,some (.bool (!(y409))))] [1,5,7,9,10,11,165,166,167,168,169,170,171,172,173,174,175,176,177,178,179,180,181,182,183,184,185,186,187,188,189,190,191,192,193,194,195,196,197,198,199,200,201,202,203,204,205,206] #[true,true,true,true,true,true,true,true,true,true,false,false,false,false,false,false,false,false,false,false,false,false,false,false,false,false,false,false,false,false,false,false,false,false,false,false,false,false,false,false,false,false,false,false,false,false,false,false,false,false,false] (by rfl) hF415 (by kernel_rfl) (by kernel_rfl) (by exact ⟨fun wS hw=>by kernel_rfl,fun wS hw=>by kernel_rfl,fun wS hw=>by kernel_rfl,trivial⟩) (fun _ _ _ _ _ h=>h) ⟨_,hS414.pick4.pick4⟩ (l':=[(165,.bool (!(y409))),(11,.slice p162 (hObjsF s144).length c163),(10,nB w69),(9,nI x58),(7,nP z32 0),(5,nP z19 0),(1,.slice (some ⟨b81,o82,none⟩) K1.length ca1)]) (by kernel_rfl) ?_
                intro a417 hF416; clear hF415
                cases hc418:(!(y409))
                case true =>
                 rw [hc418] at hF416
                 have hm419:=ifYes hc418 hm411; clear hm411
                 refine any_many 41 [(10,none),(11,none),(12,none),(13,none),(14,none),(15,none),(16,none),(17,none),(18,some (.bool true)),(19,some (.bool true)),(20,none),(21,none),(22,none),(23,none),(24,none),(25,none),(26,none),(27,none),(28,some (.bool true)),(29,some (.bool true)),(30,none),(31,none),(32,none),(33,none),(34,none),(35,none),(36,none),(37,none),(38,none),(39,some (.bool true)),(40,some (.bool true)),(41,none),(42,none),(43,none),(44,none),(45,none),(46,none),(47,none),(48,none),(49,none),(50,some (.bool true))] [1,5,7,9,10,11,206] #[true,true,true,true,true,true,true,true,true,true,true,true,true,true,true,true,true,true,true,true,true,true,true,true,true,true,true,true,true,true,true,true,true,true,true,true,true,true,true,true,true,true,true,true,true,true,true,true,true,true,true] (by rfl) hF416 (by kernel_rfl) (by kernel_rfl) (by exact (And.intro trivial (And.intro trivial (And.intro trivial (And.intro trivial (And.intro trivial (And.intro trivial (And.intro trivial (And.intro trivial (And.intro (fun wS hw=>by kernel_rfl) (And.intro (fun wS hw=>by kernel_rfl) (And.intro trivial (And.intro trivial (And.intro trivial (And.intro trivial (And.intro trivial (And.intro trivial (And.intro trivial (And.intro trivial (And.intro (fun wS hw=>by kernel_rfl) (And.intro (fun wS hw=>by kernel_rfl) (And.intro trivial (And.intro trivial (And.intro trivial (And.intro trivial (And.intro trivial (And.intro trivial (And.intro trivial (And.intro trivial (And.intro trivial (And.intro (fun wS hw=>by kernel_rfl) (And.intro (fun wS hw=>by kernel_rfl) (And.intro trivial (And.intro trivial (And.intro trivial (And.intro trivial (And.intro trivial (And.intro trivial (And.intro trivial (And.intro trivial (And.intro trivial (And.intro (fun wS hw=>by kernel_rfl) trivial)))))))))))))))))))))))))))))))))))))))))) (fun _ _ _ _ _ h=>h) ⟨_,hS414.pick4.pick4⟩ (l':=[(206,.bool true),(11,.slice p162 (hObjsF s144).length c163),(10,nB w69),(9,nI x58),(7,nP z32 0),(5,nP z19 0),(1,.slice (some ⟨b81,o82,none⟩) K1.length ca1)]) (by kernel_rfl) ?_
                 intro a421 hF420; clear hF416
                 refine any_done (by kernel_rfl) ?_
                 have hS422:=hS414.drop
                 clear hS414
                 have hS423:=hS422.pick1.pick1.pick3.pick3
                 clear hS422
                 exact thenN ⟨true,hF420,hS423,hm419⟩
                rw [hc418] at hF416
                have hm424:=ifNot hc418 hm411; clear hm411
                refine any_many 5 [(10,some (nP z19 0)),(12,some (nP z32 0)),(13,some (nP z32 0)),(14,some (nP z32 0)),(15,some (nP z33 0))] [1,5,7,9,10,11,165,166,167,171,172,173,174,175,176,177,178,179,180,181,182,183,184,185,186,187,188,189,190,191,192,193,194,195,196,197,198,199,200,201,202,203,204,205,206] #[true,true,true,true,true,true,true,true,true,true,true,false,true,true,true,true,false,false,false,false,false,false,false,false,false,false,false,false,false,false,false,false,false,false,false,false,false,false,false,false,false,false,false,false,false,false,false,false,false,false,false] (by rfl) hF416 (by kernel_rfl) (by kernel_rfl) (by exact ⟨fun wS hw=>by kernel_rfl,fun wS hw=>by kernel_rfl,fun wS hw=>by kernel_rfl,fun wS hw=>by kernel_rfl,fun wS hw=>hw.elim fun qs hw=>run_loadV rfl rfl (run_loadS rfl rfl (St.rarsee (k:=0) hw rfl).1),trivial⟩) (fun _ _ _ _ _ h=>h) ⟨_,hS414.pick4.pick4⟩ (l':=[(171,nP z33 0),(166,nP z19 0),(165,.bool false),(11,.slice p162 (hObjsF s144).length c163),(10,nB w69),(9,nI x58),(7,nP z32 0),(5,nP z19 0),(1,.slice (some ⟨b81,o82,none⟩) K1.length ca1)]) (by kernel_rfl) ?_
                intro a426 hF425; clear hF416
                have hS427:=hS414.pick2
                clear hS414
                refine any_call 11 #[true,true,true,true,true,true,true,true,true,true,true,true,true,true,true,true,false,false,false,false,false,false,false,false,false,false,false,false,false,false,false,false,false,false,false,false,false,false,false,false,false,false,false,false,false,false,false,false,false,false,false] 27 #[nP z19 0] hF425 rfl (by kernel_rfl) rfl rfl (by kernel_rfl) rfl (by kernel_rfl) (fun w=>by kernel_rfl) (by kernel_rfl) ?_
                refine (r_Used hS427).mono ?_
                rintro _ w428 ⟨rfl,hS430⟩; clear hS427
                refine ⟨⟨_,hS430.pick4.pick4⟩,?_⟩
                intro a429 hF431; clear hF425
                have hS432:=hS430.pick3
                clear hS430
                refine any_call 16 #[true,true,true,true,true,true,true,true,true,true,true,true,true,true,true,true,true,false,false,false,false,false,false,false,false,false,false,false,false,false,false,false,false,false,false,false,false,false,false,false,false,false,false,false,false,false,false,false,false,false,false] 28 #[nP z33 0] hF431 rfl (by kernel_rfl) rfl rfl (by kernel_rfl) rfl (by kernel_rfl) (fun w=>by kernel_rfl) (by kernel_rfl) ?_
                refine (rr_SWords hS432).mono ?_
                rintro _ w433 ⟨rfl,hS435⟩; clear hS432
                refine ⟨⟨_,hS435.pick4.pick1⟩,?_⟩
                intro a434 hF436; clear hF431
                refine any_many 3 [(17,some (.bool ((sWords s145.l) != (sWords s144.l)))),(18,some (.bool ((sWords s145.l) != (sWords s144.l)))),(19,some (.bool ((sWords s145.l) != (sWords s144.l))))] [1,5,7,9,10,11,175,176,177,178,179,180,181,182,183,184,185,186,187,188,189,190,191,192,193,194,195,196,197,198,199,200,201,202,203,204,205,206] #[true,true,true,true,true,true,true,true,true,true,true,true,true,true,true,true,true,true,true,true,false,false,false,false,false,false,false,false,false,false,false,false,false,false,false,false,false,false,false,false,false,false,false,false,false,false,false,false,false,false,false] (by rfl) hF436 (by kernel_rfl) (by kernel_rfl) (by exact ⟨fun wS hw=>by kernel_rfl,fun wS hw=>by kernel_rfl,fun wS hw=>by kernel_rfl,trivial⟩) (fun _ _ _ _ _ h=>h) ⟨_,hS435.pick4.pick1⟩ (l':=[(175,.bool ((sWords s145.l) != (sWords s144.l))),(11,.slice p162 (hObjsF s144).length c163),(10,nB w69),(9,nI x58),(7,nP z32 0),(5,nP z19 0),(1,.slice (some ⟨b81,o82,none⟩) K1.length ca1)]) (by kernel_rfl) ?_
                intro a438 hF437; clear hF436
                cases hc439:((sWords s145.l) != (sWords s144.l))
                case true =>
                 rw [hc439] at hF437
                 have hm440:=ifYes hc439 hm424; clear hm424
                 refine any_many 31 [(20,none),(21,none),(22,none),(23,none),(24,none),(25,none),(26,none),(27,none),(28,some (.bool true)),(29,some (.bool true)),(30,none),(31,none),(32,none),(33,none),(34,none),(35,none),(36,none),(37,none),(38,none),(39,some (.bool true)),(40,some (.bool true)),(41,none),(42,none),(43,none),(44,none),(45,none),(46,none),(47,none),(48,none),(49,none),(50,some (.bool true))] [1,5,7,9,10,11,206] #[true,true,true,true,true,true,true,true,true,true,true,true,true,true,true,true,true,true,true,true,true,true,true,true,true,true,true,true,true,true,true,true,true,true,true,true,true,true,true,true,true,true,true,true,true,true,true,true,true,true,true] (by rfl) hF437 (by kernel_rfl) (by kernel_rfl) (by exact (And.intro trivial (And.intro trivial (And.intro trivial (And.intro trivial (And.intro trivial (And.intro trivial (And.intro trivial (And.intro trivial (And.intro (fun wS hw=>by kernel_rfl) (And.intro (fun wS hw=>by kernel_rfl) (And.intro trivial (And.intro trivial (And.intro trivial (And.intro trivial (And.intro trivial (And.intro trivial (And.intro trivial (And.intro trivial (And.intro trivial (And.intro (fun wS hw=>by kernel_rfl) (And.intro (fun wS hw=>by kernel_rfl) (And.intro trivial (And.intro trivial (And.intro trivial (And.intro trivial (And.intro trivial (And.intro trivial (And.intro trivial (And.intro trivial (And.intro trivial (And.intro (fun wS hw=>by kernel_rfl) trivial)))))))))))))))))))))))))))))))) (fun _ _ _ _ _ h=>h) ⟨_,hS435.pick4.pick1⟩ (l':=[(206,.bool true),(11,.slice p162 (hObjsF s144).length c163),(10,nB w69),(9,nI x58),(7,nP z32 0),(5,nP z19 0),(1,.slice (some ⟨b81,o82,none⟩) K1.length ca1)]) (by kernel_rfl) ?_
                 intro a442 hF441; clear hF437
                 refine any_done (by kernel_rfl) ?_
                 have hS443:=hS435.pick2.drop
                 clear hS435
                 have hS444:=hS443.pick1.pick2.pick3.pick3
                 clear hS443
                 exact thenN ⟨true,hF441,hS444,hm440⟩
                rw [hc439] at hF437
                have hm445:=ifNot hc439 hm424; clear hm424
                refine any_many 6 [(20,some (nP z19 0)),(22,some (nP z32 0)),(23,some (nP z32 0)),(24,some (nP z32 1)),(25,some (.slice (some ⟨z34,0,none⟩) (s144.c.length) (s144.c.length))),(26,some (nI (((s144.c.length:Nat):Int))))] [1,5,7,9,10,11,175,176,177,182,183,184,185,186,187,188,189,190,191,192,193,194,195,196,197,198,199,200,201,202,203,204,205,206] #[true,true,true,true,true,true,true,true,true,true,true,true,true,true,true,true,true,true,true,true,true,false,true,true,true,true,true,false,false,false,false,false,false,false,false,false,false,false,false,false,false,false,false,false,false,false,false,false,false,false,false] (by rfl) hF437 (by kernel_rfl) (by kernel_rfl) (by exact ⟨fun wS hw=>by kernel_rfl,fun wS hw=>by kernel_rfl,fun wS hw=>by kernel_rfl,fun wS hw=>by kernel_rfl,fun wS hw=>hw.elim fun qs hw=>run_loadV rfl rfl (run_loadS rfl rfl (St.rarsee (k:=0) hw rfl).2),fun wS hw=>by kernel_rfl,trivial⟩) (fun _ _ _ _ _ h=>h) ⟨_,hS435.pick4.pick1⟩ (l':=[(182,nI (((s144.c.length:Nat):Int))),(176,nP z19 0),(175,.bool false),(11,.slice p162 (hObjsF s144).length c163),(10,nB w69),(9,nI x58),(7,nP z32 0),(5,nP z19 0),(1,.slice (some ⟨b81,o82,none⟩) K1.length ca1)]) (by kernel_rfl) ?_
                intro a447 hF446; clear hF437
                have hS448:=hS435.pick1
                clear hS435
                refine any_call 21 #[true,true,true,true,true,true,true,true,true,true,true,true,true,true,true,true,true,true,true,true,true,true,true,true,true,true,true,false,false,false,false,false,false,false,false,false,false,false,false,false,false,false,false,false,false,false,false,false,false,false,false] 29 #[nP z19 0] hF446 rfl (by kernel_rfl) rfl rfl (by kernel_rfl) rfl (by kernel_rfl) (fun w=>by kernel_rfl) (by kernel_rfl) ?_
                refine (r_Words hS448).mono ?_
                rintro _ w449 ⟨rfl,hS451⟩; clear hS448
                refine ⟨⟨_,hS451.pick4.pick2⟩,?_⟩
                intro a450 hF452; clear hF446
                refine any_many 3 [(27,some (.bool ((s145.c.length:Int) != ((s144.c.length:Nat):Int)))),(28,some (.bool ((s145.c.length:Int) != ((s144.c.length:Nat):Int)))),(29,some (.bool ((s145.c.length:Int) != ((s144.c.length:Nat):Int))))] [1,5,7,9,10,11,185,186,187,188,189,190,191,192,193,194,195,196,197,198,199,200,201,202,203,204,205,206] #[true,true,true,true,true,true,true,true,true,true,true,true,true,true,true,true,true,true,true,true,true,true,true,true,true,true,true,true,true,true,false,false,false,false,false,false,false,false,false,false,false,false,false,false,false,false,false,false,false,false,false] (by rfl) hF452 (by kernel_rfl) (by kernel_rfl) (by exact ⟨fun wS hw=>by kernel_rfl,fun wS hw=>by kernel_rfl,fun wS hw=>by kernel_rfl,trivial⟩) (fun _ _ _ _ _ h=>h) ⟨_,hS451.pick4.pick2⟩ (l':=[(185,.bool ((s145.c.length:Int) != ((s144.c.length:Nat):Int))),(11,.slice p162 (hObjsF s144).length c163),(10,nB w69),(9,nI x58),(7,nP z32 0),(5,nP z19 0),(1,.slice (some ⟨b81,o82,none⟩) K1.length ca1)]) (by kernel_rfl) ?_
                intro a454 hF453; clear hF452
                cases hc455:((s145.c.length:Int) != ((s144.c.length:Nat):Int))
                case true =>
                 rw [hc455] at hF453
                 have hm456:=ifYes hc455 hm445; clear hm445
                 refine any_many 21 [(30,none),(31,none),(32,none),(33,none),(34,none),(35,none),(36,none),(37,none),(38,none),(39,some (.bool true)),(40,some (.bool true)),(41,none),(42,none),(43,none),(44,none),(45,none),(46,none),(47,none),(48,none),(49,none),(50,some (.bool true))] [1,5,7,9,10,11,206] #[true,true,true,true,true,true,true,true,true,true,true,true,true,true,true,true,true,true,true,true,true,true,true,true,true,true,true,true,true,true,true,true,true,true,true,true,true,true,true,true,true,true,true,true,true,true,true,true,true,true,true] (by rfl) hF453 (by kernel_rfl) (by kernel_rfl) (by exact (And.intro trivial (And.intro trivial (And.intro trivial (And.intro trivial (And.intro trivial (And.intro trivial (And.intro trivial (And.intro trivial (And.intro trivial (And.intro (fun wS hw=>by kernel_rfl) (And.intro (fun wS hw=>by kernel_rfl) (And.intro trivial (And.intro trivial (And.intro trivial (And.intro trivial (And.intro trivial (And.intro trivial (And.intro trivial (And.intro trivial (And.intro trivial (And.intro (fun wS hw=>by kernel_rfl) trivial)))))))))))))))))))))) (fun _ _ _ _ _ h=>h) ⟨_,hS451.pick4.pick2⟩ (l':=[(206,.bool true),(11,.slice p162 (hObjsF s144).length c163),(10,nB w69),(9,nI x58),(7,nP z32 0),(5,nP z19 0),(1,.slice (some ⟨b81,o82,none⟩) K1.length ca1)]) (by kernel_rfl) ?_
                 intro a458 hF457; clear hF453
                 refine any_done (by kernel_rfl) ?_
                 have hS459:=hS451.pick2.drop
                 clear hS451
                 have hS460:=hS459.pick2.pick3.pick3
                 clear hS459
                 exact thenN ⟨true,hF457,hS460,hm456⟩
                rw [hc455] at hF453
                have hm461:=ifNot hc455 hm445; clear hm445
                refine any_many 6 [(30,some (nP z19 0)),(31,some (nP (w69.heap.size) 3)),(32,some (nI x119)),(34,some (nP z32 0)),(35,some (nP (w69.heap.size) 3)),(36,some (nI x119))] [1,5,7,9,10,11,185,186,188,189,190,192,193,194,195,196,197,198,199,200,201,202,203,204,205,206] #[true,true,true,true,true,true,true,true,true,true,true,true,true,true,true,true,true,true,true,true,true,true,true,true,true,true,true,true,true,true,true,true,true,false,true,true,true,false,false,false,false,false,false,false,false,false,false,false,false,false,false] (by rfl) hF453 (by kernel_rfl) (by kernel_rfl) (by exact ⟨fun wS hw=>by kernel_rfl,fun wS hw=>by kernel_rfl,fun wS hw=>hw.elim fun qs hw=>run_loadV rfl rfl (run_loadS rfl rfl (hw.cell 1 rfl 3 rfl)),fun wS hw=>by kernel_rfl,fun wS hw=>by kernel_rfl,fun wS hw=>hw.elim fun qs hw=>run_loadV rfl rfl (run_loadS rfl rfl (hw.cell 1 rfl 3 rfl)),trivial⟩) (fun _ _ _ _ _ h=>h) ⟨_,hS451.pick4.pick2⟩ (l':=[(192,nI x119),(190,nP z32 0),(188,nI x119),(186,nP z19 0),(185,.bool false),(11,.slice p162 (hObjsF s144).length c163),(10,nB w69),(9,nI x58),(7,nP z32 0),(5,nP z19 0),(1,.slice (some ⟨b81,o82,none⟩) K1.length ca1)]) (by kernel_rfl) ?_
                intro a463 hF462; clear hF453
                refine any_call 33 #[true,true,true,true,true,true,true,true,true,true,true,true,true,true,true,true,true,true,true,true,true,true,true,true,true,true,true,true,true,true,true,true,true,true,true,true,true,false,false,false,false,false,false,false,false,false,false,false,false,false,false] 30 #[nP z19 0,nI x119] hF462 rfl (by kernel_rfl) rfl rfl (by kernel_rfl) rfl (by kernel_rfl) (fun w=>by kernel_rfl) (by kernel_rfl) ?_
                refine (r_Kind hS451).mono ?_
                rintro _ w464 ⟨rfl,hS466⟩; clear hS451
                refine ⟨⟨_,hS466.pick4.pick2⟩,?_⟩
                intro a465 hF467; clear hF462
                have hS468:=hS466.pick1
                clear hS466
                refine any_call 37 #[true,true,true,true,true,true,true,true,true,true,true,true,true,true,true,true,true,true,true,true,true,true,true,true,true,true,true,true,true,true,true,true,true,true,true,true,true,true,false,false,false,false,false,false,false,false,false,false,false,false,false] 31 #[nP z32 0,nI x119] hF467 rfl (by kernel_rfl) rfl rfl (by kernel_rfl) rfl (by kernel_rfl) (fun w=>by kernel_rfl) (by kernel_rfl) ?_
                refine (rr_Kind hS468).mono ?_
                rintro _ w469 ⟨rfl,hS471⟩; clear hS468
                refine ⟨⟨_,hS471.pick4.pick1⟩,?_⟩
                intro a470 hF472; clear hF467
                refine any_many 3 [(38,some (.bool ((aKind s145.c x119) != (aKind s144.c x119)))),(39,some (.bool ((aKind s145.c x119) != (aKind s144.c x119)))),(40,some (.bool ((aKind s145.c x119) != (aKind s144.c x119))))] [1,5,7,9,10,11,196,197,198,199,200,201,202,203,204,205,206] #[true,true,true,true,true,true,true,true,true,true,true,true,true,true,true,true,true,true,true,true,true,true,true,true,true,true,true,true,true,true,true,true,true,true,true,true,true,true,true,true,true,false,false,false,false,false,false,false,false,false,false] (by rfl) hF472 (by kernel_rfl) (by kernel_rfl) (by exact ⟨fun wS hw=>by kernel_rfl,fun wS hw=>by kernel_rfl,fun wS hw=>by kernel_rfl,trivial⟩) (fun _ _ _ _ _ h=>h) ⟨_,hS471.pick4.pick1⟩ (l':=[(196,.bool ((aKind s145.c x119) != (aKind s144.c x119))),(11,.slice p162 (hObjsF s144).length c163),(10,nB w69),(9,nI x58),(7,nP z32 0),(5,nP z19 0),(1,.slice (some ⟨b81,o82,none⟩) K1.length ca1)]) (by kernel_rfl) ?_
                intro a474 hF473; clear hF472
                cases hc475:((aKind s145.c x119) != (aKind s144.c x119))
                case true =>
                 rw [hc475] at hF473
                 have hm476:=ifYes hc475 hm461; clear hm461
                 refine any_many 10 [(41,none),(42,none),(43,none),(44,none),(45,none),(46,none),(47,none),(48,none),(49,none),(50,some (.bool true))] [1,5,7,9,10,11,206] #[true,true,true,true,true,true,true,true,true,true,true,true,true,true,true,true,true,true,true,true,true,true,true,true,true,true,true,true,true,true,true,true,true,true,true,true,true,true,true,true,true,true,true,true,true,true,true,true,true,true,true] (by rfl) hF473 (by kernel_rfl) (by kernel_rfl) (by exact (And.intro trivial (And.intro trivial (And.intro trivial (And.intro trivial (And.intro trivial (And.intro trivial (And.intro trivial (And.intro trivial (And.intro trivial (And.intro (fun wS hw=>by kernel_rfl) trivial))))))))))) (fun _ _ _ _ _ h=>h) ⟨_,hS471.pick4.pick1⟩ (l':=[(206,.bool true),(11,.slice p162 (hObjsF s144).length c163),(10,nB w69),(9,nI x58),(7,nP z32 0),(5,nP z19 0),(1,.slice (some ⟨b81,o82,none⟩) K1.length ca1)]) (by kernel_rfl) ?_
                 intro a478 hF477; clear hF473
                 refine any_done (by kernel_rfl) ?_
                 have hS479:=hS471.pick2.drop
                 clear hS471
                 have hS480:=hS479.pick1.pick2.pick3.pick3
                 clear hS479
                 exact thenN ⟨true,hF477,hS480,hm476⟩
                rw [hc475] at hF473
                have hm481:=ifNot hc475 hm461; clear hm461
                refine any_many 6 [(41,some (nP z19 0)),(42,some (nP (w69.heap.size) 3)),(43,some (nI x119)),(45,some (nP z32 0)),(46,some (nP (w69.heap.size) 3)),(47,some (nI x119))] [1,5,7,9,10,11,196,197,199,200,201,203,204,205,206] #[true,true,true,true,true,true,true,true,true,true,true,true,true,true,true,true,true,true,true,true,true,true,true,true,true,true,true,true,true,true,true,true,true,true,true,true,true,true,true,true,true,true,true,true,false,true,true,true,false,false,false] (by rfl) hF473 (by kernel_rfl) (by kernel_rfl) (by exact ⟨fun wS hw=>by kernel_rfl,fun wS hw=>by kernel_rfl,fun wS hw=>hw.elim fun qs hw=>run_loadV rfl rfl (run_loadS rfl rfl (hw.cell 1 rfl 3 rfl)),fun wS hw=>by kernel_rfl,fun wS hw=>by kernel_rfl,fun wS hw=>hw.elim fun qs hw=>run_loadV rfl rfl (run_loadS rfl rfl (hw.cell 1 rfl 3 rfl)),trivial⟩) (fun _ _ _ _ _ h=>h) ⟨_,hS471.pick4.pick1⟩ (l':=[(203,nI x119),(201,nP z32 0),(199,nI x119),(197,nP z19 0),(196,.bool false),(11,.slice p162 (hObjsF s144).length c163),(10,nB w69),(9,nI x58),(7,nP z32 0),(5,nP z19 0),(1,.slice (some ⟨b81,o82,none⟩) K1.length ca1)]) (by kernel_rfl) ?_
                intro a483 hF482; clear hF473
                have hS484:=hS471.pick1
                clear hS471
                refine any_call 44 #[true,true,true,true,true,true,true,true,true,true,true,true,true,true,true,true,true,true,true,true,true,true,true,true,true,true,true,true,true,true,true,true,true,true,true,true,true,true,true,true,true,true,true,true,true,true,true,true,false,false,false] 32 #[nP z19 0,nI x119] hF482 rfl (by kernel_rfl) rfl rfl (by kernel_rfl) rfl (by kernel_rfl) (fun w=>by kernel_rfl) (by kernel_rfl) ?_
                refine (r_Len hS484).mono ?_
                rintro _ w485 ⟨rfl,hS487⟩; clear hS484
                refine ⟨⟨_,hS487.pick4.pick2⟩,?_⟩
                intro a486 hF488; clear hF482
                have hS489:=hS487.pick1
                clear hS487
                refine any_call 48 #[true,true,true,true,true,true,true,true,true,true,true,true,true,true,true,true,true,true,true,true,true,true,true,true,true,true,true,true,true,true,true,true,true,true,true,true,true,true,true,true,true,true,true,true,true,true,true,true,true,false,false] 33 #[nP z32 0,nI x119] hF488 rfl (by kernel_rfl) rfl rfl (by kernel_rfl) rfl (by kernel_rfl) (fun w=>by kernel_rfl) (by kernel_rfl) ?_
                refine (rr_Len hS489).mono ?_
                rintro _ w490 ⟨rfl,hS492⟩; clear hS489
                refine ⟨⟨_,hS492.pick4.pick1⟩,?_⟩
                intro a491 hF493; clear hF488
                refine any_many 2 [(49,some (.bool ((aLen s145.c x119) != (aLen s144.c x119)))),(50,some (.bool ((aLen s145.c x119) != (aLen s144.c x119))))] [1,5,7,9,10,11,206] #[true,true,true,true,true,true,true,true,true,true,true,true,true,true,true,true,true,true,true,true,true,true,true,true,true,true,true,true,true,true,true,true,true,true,true,true,true,true,true,true,true,true,true,true,true,true,true,true,true,true,true] (by rfl) hF493 (by kernel_rfl) (by kernel_rfl) (by exact ⟨fun wS hw=>by kernel_rfl,fun wS hw=>by kernel_rfl,trivial⟩) (fun _ _ _ _ _ h=>h) ⟨_,hS492.pick4.pick1⟩ (l':=[(206,.bool ((aLen s145.c x119) != (aLen s144.c x119))),(11,.slice p162 (hObjsF s144).length c163),(10,nB w69),(9,nI x58),(7,nP z32 0),(5,nP z19 0),(1,.slice (some ⟨b81,o82,none⟩) K1.length ca1)]) (by kernel_rfl) ?_
                intro a495 hF494; clear hF493
                refine any_done (by kernel_rfl) ?_
                have hS496:=hS492.pick2.drop
                clear hS492
                have hS497:=hS496.pick1.pick2.pick3.pick3
                clear hS496
                exact thenN ⟨(aLen s145.c x119) != (aLen s144.c x119),hF494,hS497,hm481⟩
            · skip
              cases hc498:(y136)
              case true =>
               rw [hc498] at hF140
               have hm499:=ifYes hc498 hm142; clear hm142
               refine ev_condT hF140 rfl rfl ?_
               have hS500:=hS141.drew; clear hS141
               refine any_start (fun wS=>∃ qs,St w0 [] (BlkP (w69.heap.size) 48 #[nI ((atX kOp07 K1 x58).kind),nI ((atX kOp07 K1 x58).of),nI ((atX kOp07 K1 x58).n),nI x119,nI ((atX kOp07 K1 x58).i),nI ((atX kOp07 K1 x58).w)]::qs) wS) 10 #[false,false,false,false,false,false,false,false,false,false] (by kernel_rfl) (by kernel_rfl) (by kernel_rfl) ?_
               refine any_many 6 [(0,some (nP z19 0)),(1,some (nP (w69.heap.size) 3)),(2,some (nI x119)),(4,some (nP z32 0)),(5,some (nP (w69.heap.size) 3)),(6,some (nI x119))] [1,5,7,9,10,12,125,127,128,129,131,132,133] #[true,true,true,false,true,true,true,false,false,false] (by rfl) hF140 (by kernel_rfl) (by kernel_rfl) (by exact ⟨fun wS hw=>by kernel_rfl,fun wS hw=>by kernel_rfl,fun wS hw=>hw.elim fun qs hw=>run_loadV rfl rfl (run_loadS rfl rfl (hw.cell 0 rfl 3 rfl)),fun wS hw=>by kernel_rfl,fun wS hw=>by kernel_rfl,fun wS hw=>hw.elim fun qs hw=>run_loadV rfl rfl (run_loadS rfl rfl (hw.cell 0 rfl 3 rfl)),trivial⟩) (fun _ _ _ _ _ h=>h) ⟨_,hS500⟩ (l':=[(131,nI x119),(129,nP z32 0),(127,nI x119),(125,nP z19 0),(10,nB w69),(9,nI x58),(7,nP z32 0),(5,nP z19 0),(1,.slice (some ⟨b81,o82,none⟩) K1.length ca1)]) (by kernel_rfl) ?_
               intro a502 hF501; clear hF140
               have hS503:=hS500.pick2
               clear hS500
               refine any_call 3 #[true,true,true,true,true,true,true,false,false,false] 19 #[nP z19 0,nI x119] hF501 rfl (by kernel_rfl) rfl rfl (by kernel_rfl) rfl (by kernel_rfl) (fun w=>by kernel_rfl) (by kernel_rfl) ?_
               obtain ⟨x504,s505,hx506,hm507⟩:=bind2E hm499; clear hm499
               refine (r_Free hS503 hx506).mono ?_
               rintro _ w508 ⟨rfl,hS510⟩; clear hS503
               refine ⟨⟨_,hS510.pick1⟩,?_⟩
               intro a509 hF511; clear hF501
               have hS512:=hS510.pick2
               clear hS510
               refine any_call 7 #[true,true,true,true,true,true,true,true,false,false] 20 #[nP z32 0,nI x119] hF511 rfl (by kernel_rfl) rfl rfl (by kernel_rfl) rfl (by kernel_rfl) (fun w=>by kernel_rfl) (by kernel_rfl) ?_
               obtain ⟨x513,s514,hx515,hm516⟩:=bind2E hm507; clear hm507
               refine (rr_Free hS512 hx515).mono ?_
               rintro _ w517 ⟨rfl,hS519⟩; clear hS512
               refine ⟨⟨_,hS519.pick2⟩,?_⟩
               intro a518 hF520; clear hF511
               refine any_many 2 [(8,some (.bool (x504 == x513))),(9,some (.bool (x504 == x513)))] [1,5,7,9,10,12] #[true,true,true,true,true,true,true,true,true,true] (by rfl) hF520 (by kernel_rfl) (by kernel_rfl) (by exact ⟨fun wS hw=>by kernel_rfl,fun wS hw=>by kernel_rfl,trivial⟩) (fun _ _ _ _ _ h=>h) ⟨_,hS519.pick2⟩ (l':=[(12,.bool (x504 == x513)),(10,nB w69),(9,nI x58),(7,nP z32 0),(5,nP z19 0),(1,.slice (some ⟨b81,o82,none⟩) K1.length ca1)]) (by kernel_rfl) ?_
               intro a522 hF521; clear hF520
               refine any_done (by kernel_rfl) ?_
               exact thenN ⟨s514,s505,x504 == x513,hF521,hS519,hm516⟩
              rw [hc498] at hF140
              have hm523:=ifNot hc498 hm142; clear hm142
              refine ev_condF hF140 rfl rfl ?_
              refine wp_seq (wp_seq (wp_region_lit ?_))
              refine ev_runK 2 hF140 [1,5,7,9,10,95,134] (l':=[(134,.bool (((atX kOp07 K1 x58).kind) == 2)),(95,nI ((atX kOp07 K1 x58).kind)),(10,nB w69),(9,nI x58),(7,nP z32 0),(5,nP z19 0),(1,.slice (some ⟨b81,o82,none⟩) K1.length ca1)]) (w':=w139) (by kernel_rfl) ?_
              intro a525 hF524; clear hF140
              refine wpList_nil (thenN ?_)
              refine joinQ (fun aI wI=>∃ (y526:Bool),Fr 292 aI [(134,.bool (y526)),(10,nB w69),(9,nI x58),(7,nP z32 0),(5,nP z19 0),(1,.slice (some ⟨b81,o82,none⟩) K1.length ca1)]∧St w0 [] (BlkP (w69.heap.size) 48 #[nI ((atX kOp07 K1 x58).kind),nI ((atX kOp07 K1 x58).of),nI ((atX kOp07 K1 x58).n),nI x119,nI ((atX kOp07 K1 x58).i),nI ((atX kOp07 K1 x58).w)]::RArenaP z32 z33 z34 s56::ArenaP z19 s57::ps) wI∧ArenaPlays.j69 K1 k s56 s57 x58 (ArenaPlays.l48 K1 k k59) x119 y526=some r0) ?_ ?_
              rotate_left
              · rintro a528 w529 ⟨y526,hF530,hS531,hm532⟩
                clear hF524 hS141 hm523
                unfold ArenaPlays.j69 at hm532
                refine thenN ?_
                refine joinQ (fun aI wI=>∃ (s534:ASt) (s535:ASt) (y536:Bool),Fr 292 aI [(12,.bool (y536)),(10,nB w69),(9,nI x58),(7,nP z32 0),(5,nP z19 0),(1,.slice (some ⟨b81,o82,none⟩) K1.length ca1)]∧St w0 [] (RArenaP z32 z33 z34 s534::ArenaP z19 s535::BlkP (w69.heap.size) 48 #[nI ((atX kOp07 K1 x58).kind),nI ((atX kOp07 K1 x58).of),nI ((atX kOp07 K1 x58).n),nI x119,nI ((atX kOp07 K1 x58).i),nI ((atX kOp07 K1 x58).w)]::ps) wI∧ArenaPlays.j70 K1 k x58 (ArenaPlays.l48 K1 k k59) x119 s534 s535 y536=some r0) ?_ ?_
                rotate_left
                · rintro a538 w539 ⟨s534,s535,y536,hF540,hS541,hm542⟩
                  clear hF530 hS531 hm532
                  unfold ArenaPlays.j70 at hm542
                  exact thenN ⟨s534,s535,y536,hF540,hS541,hm542⟩
                · skip
                  cases hc544:(y526)
                  case true =>
                   rw [hc544] at hF530
                   have hm545:=ifYes hc544 hm532; clear hm532
                   refine ev_condT hF530 rfl rfl ?_
                   have hS546:=hS531.drew; clear hS531
                   refine any_start (fun wS=>∃ qs,St w0 [] (BlkP (w69.heap.size) 48 #[nI ((atX kOp07 K1 x58).kind),nI ((atX kOp07 K1 x58).of),nI ((atX kOp07 K1 x58).n),nI x119,nI ((atX kOp07 K1 x58).i),nI ((atX kOp07 K1 x58).w)]::qs) wS) 18 #[false,false,false,false,false,false,false,false,false,false,false,false,false,false,false,false,false,false] (by kernel_rfl) (by kernel_rfl) (by kernel_rfl) ?_
                   refine any_many 14 [(0,some (nP z19 0)),(1,some (nP (w69.heap.size) 3)),(2,some (nI x119)),(3,some (nP (w69.heap.size) 4)),(4,some (nI ((atX kOp07 K1 x58).i))),(5,some (nP (w69.heap.size) 5)),(6,some (nI ((atX kOp07 K1 x58).w))),(8,some (nP z32 0)),(9,some (nP (w69.heap.size) 3)),(10,some (nI x119)),(11,some (nP (w69.heap.size) 4)),(12,some (nI ((atX kOp07 K1 x58).i))),(13,some (nP (w69.heap.size) 5)),(14,some (nI ((atX kOp07 K1 x58).w)))] [1,5,7,9,10,12,137,139,141,143,144,145,147,149,151,152,153] #[true,true,true,true,true,true,true,false,true,true,true,true,true,true,true,false,false,false] (by rfl) hF530 (by kernel_rfl) (by kernel_rfl) (by exact ⟨fun wS hw=>by kernel_rfl,fun wS hw=>by kernel_rfl,fun wS hw=>hw.elim fun qs hw=>run_loadV rfl rfl (run_loadS rfl rfl (hw.cell 0 rfl 3 rfl)),fun wS hw=>by kernel_rfl,fun wS hw=>hw.elim fun qs hw=>run_loadV rfl rfl (run_loadS rfl rfl (hw.cell 0 rfl 4 rfl)),fun wS hw=>by kernel_rfl,fun wS hw=>hw.elim fun qs hw=>run_loadV rfl rfl (run_loadS rfl rfl (hw.cell 0 rfl 5 rfl)),fun wS hw=>by kernel_rfl,fun wS hw=>by kernel_rfl,fun wS hw=>hw.elim fun qs hw=>run_loadV rfl rfl (run_loadS rfl rfl (hw.cell 0 rfl 3 rfl)),fun wS hw=>by kernel_rfl,fun wS hw=>hw.elim fun qs hw=>run_loadV rfl rfl (run_loadS rfl rfl (hw.cell 0 rfl 4 rfl)),fun wS hw=>by kernel_rfl,fun wS hw=>hw.elim fun qs hw=>run_loadV rfl rfl (run_loadS rfl rfl (hw.cell 0 rfl 5 rfl)),trivial⟩) (fun _ _ _ _ _ h=>h) ⟨_,hS546⟩ (l':=[(151,nI ((atX kOp07 K1 x58).w)),(149,nI ((atX kOp07 K1 x58).i)),(147,nI x119),(145,nP z32 0),(143,nI ((atX kOp07 K1 x58).w)),(141,nI ((atX kOp07 K1 x58).i)),(139,nI x119),(137,nP z19 0),(10,nB w69),(9,nI x58),(7,nP z32 0),(5,nP z19 0),(1,.slice (some ⟨b81,o82,none⟩) K1.length ca1)]) (by kernel_rfl) ?_
                   intro a548 hF547; clear hF530
                   have hS549:=hS546.pick2
                   clear hS546
                   refine any_call 7 #[true,true,true,true,true,true,true,true,true,true,true,true,true,true,true,false,false,false] 21 #[nP z19 0,nI x119,nI ((atX kOp07 K1 x58).i),nI ((atX kOp07 K1 x58).w)] hF547 rfl (by kernel_rfl) rfl rfl (by kernel_rfl) rfl (by kernel_rfl) (fun w=>by kernel_rfl) (by kernel_rfl) ?_
                   obtain ⟨x550,s551,hx552,hm553⟩:=bind2E hm545; clear hm545
                   refine (r_Store hS549 hx552).mono ?_
                   rintro _ w554 ⟨rfl,hS556⟩; clear hS549
                   refine ⟨⟨_,hS556.pick1⟩,?_⟩
                   intro a555 hF557; clear hF547
                   have hS558:=hS556.pick2
                   clear hS556
                   refine any_call 15 #[true,true,true,true,true,true,true,true,true,true,true,true,true,true,true,true,false,false] 22 #[nP z32 0,nI x119,nI ((atX kOp07 K1 x58).i),nI ((atX kOp07 K1 x58).w)] hF557 rfl (by kernel_rfl) rfl rfl (by kernel_rfl) rfl (by kernel_rfl) (fun w=>by kernel_rfl) (by kernel_rfl) ?_
                   obtain ⟨x559,s560,hx561,hm562⟩:=bind2E hm553; clear hm553
                   refine (rr_Store hS558 hx561).mono ?_
                   rintro _ w563 ⟨rfl,hS565⟩; clear hS558
                   refine ⟨⟨_,hS565.pick2⟩,?_⟩
                   intro a564 hF566; clear hF557
                   refine any_many 2 [(16,some (.bool (x550 == x559))),(17,some (.bool (x550 == x559)))] [1,5,7,9,10,12] #[true,true,true,true,true,true,true,true,true,true,true,true,true,true,true,true,true,true] (by rfl) hF566 (by kernel_rfl) (by kernel_rfl) (by exact ⟨fun wS hw=>by kernel_rfl,fun wS hw=>by kernel_rfl,trivial⟩) (fun _ _ _ _ _ h=>h) ⟨_,hS565.pick2⟩ (l':=[(12,.bool (x550 == x559)),(10,nB w69),(9,nI x58),(7,nP z32 0),(5,nP z19 0),(1,.slice (some ⟨b81,o82,none⟩) K1.length ca1)]) (by kernel_rfl) ?_
                   intro a568 hF567; clear hF566
                   refine any_done (by kernel_rfl) ?_
                   exact thenN ⟨s560,s551,x550 == x559,hF567,hS565,hm562⟩
                  rw [hc544] at hF530
                  have hm569:=ifNot hc544 hm532; clear hm532
                  refine ev_condF hF530 rfl rfl ?_
                  refine wp_seq (wp_region_lit ?_)
                  refine ev_runs 2 hF530 (l':=[(98,nP (w69.heap.size) 1),(97,nP z19 0),(134,.bool false),(10,nB w69),(9,nI x58),(7,nP z32 0),(5,nP z19 0),(1,.slice (some ⟨b81,o82,none⟩) K1.length ca1)]) (w':=w529) (by kernel_rfl) ?_
                  intro a571 hF570; clear hF530
                  refine ev_one (nI ((atX kOp07 K1 x58).of)) w529 hF570 (by kernel_rfl) rfl (by kernel_rfl) (run_loadV rfl rfl (run_loadS rfl rfl (hS531.cell 0 rfl 1 rfl))) (l':=[(99,nI ((atX kOp07 K1 x58).of)),(98,nP (w69.heap.size) 1),(97,nP z19 0),(134,.bool false),(10,nB w69),(9,nI x58),(7,nP z32 0),(5,nP z19 0),(1,.slice (some ⟨b81,o82,none⟩) K1.length ca1)]) (by kernel_rfl) ?_
                  intro a573 hF572; clear hF570
                  refine ev_runs 1 hF572 (l':=[(100,nP (w69.heap.size) 2),(99,nI ((atX kOp07 K1 x58).of)),(98,nP (w69.heap.size) 1),(97,nP z19 0),(134,.bool false),(10,nB w69),(9,nI x58),(7,nP z32 0),(5,nP z19 0),(1,.slice (some ⟨b81,o82,none⟩) K1.length ca1)]) (w':=w529) (by kernel_rfl) ?_
                  intro a575 hF574; clear hF572
                  refine ev_one (nI ((atX kOp07 K1 x58).n)) w529 hF574 (by kernel_rfl) rfl (by kernel_rfl) (run_loadV rfl rfl (run_loadS rfl rfl (hS531.cell 0 rfl 2 rfl))) (l':=[(101,nI ((atX kOp07 K1 x58).n)),(100,nP (w69.heap.size) 2),(99,nI ((atX kOp07 K1 x58).of)),(98,nP (w69.heap.size) 1),(97,nP z19 0),(134,.bool false),(10,nB w69),(9,nI x58),(7,nP z32 0),(5,nP z19 0),(1,.slice (some ⟨b81,o82,none⟩) K1.length ca1)]) (by kernel_rfl) ?_
                  intro a577 hF576; clear hF574
                  have hS578:=hS531.pick2
                  clear hS531
                  refine ev_call 23 #[nP z19 0,nI ((atX kOp07 K1 x58).of),nI ((atX kOp07 K1 x58).n)] hF576 rfl rfl (by kernel_rfl) rfl (by kernel_rfl) (fun w=>by kernel_rfl) ?_
                  obtain ⟨x579,x580,s581,hx582,hm583⟩:=bind3E hm569; clear hm569
                  refine (r_Alloc hS578 hx582).mono ?_
                  rintro _ w584 ⟨rfl,hS586⟩ a585 hF587; clear hF576 hS578
                  refine ev_runK 5 hF587 [1,5,7,9,10,13,14] (l':=[(14,nI x580),(13,nI x579),(10,nB w69),(9,nI x58),(7,nP z32 0),(5,nP z19 0),(1,.slice (some ⟨b81,o82,none⟩) K1.length ca1)]) (w':=w584) (by kernel_rfl) ?_
                  intro a589 hF588; clear hF587
                  refine wpList_nil (thenN (wp_seq (wp_region_lit ?_)))
                  refine ev_runs 2 hF588 (l':=[(107,nP (w69.heap.size) 1),(106,nP z32 0),(14,nI x580),(13,nI x579),(10,nB w69),(9,nI x58),(7,nP z32 0),(5,nP z19 0),(1,.slice (some ⟨b81,o82,none⟩) K1.length ca1)]) (w':=w584) (by kernel_rfl) ?_
                  intro a591 hF590; clear hF588
                  refine ev_one (nI ((atX kOp07 K1 x58).of)) w584 hF590 (by kernel_rfl) rfl (by kernel_rfl) (run_loadV rfl rfl (run_loadS rfl rfl (hS586.cell 1 rfl 1 rfl))) (l':=[(108,nI ((atX kOp07 K1 x58).of)),(107,nP (w69.heap.size) 1),(106,nP z32 0),(14,nI x580),(13,nI x579),(10,nB w69),(9,nI x58),(7,nP z32 0),(5,nP z19 0),(1,.slice (some ⟨b81,o82,none⟩) K1.length ca1)]) (by kernel_rfl) ?_
                  intro a593 hF592; clear hF590
                  refine ev_runs 1 hF592 (l':=[(109,nP (w69.heap.size) 2),(108,nI ((atX kOp07 K1 x58).of)),(107,nP (w69.heap.size) 1),(106,nP z32 0),(14,nI x580),(13,nI x579),(10,nB w69),(9,nI x58),(7,nP z32 0),(5,nP z19 0),(1,.slice (some ⟨b81,o82,none⟩) K1.length ca1)]) (w':=w584) (by kernel_rfl) ?_
                  intro a595 hF594; clear hF592
                  refine ev_one (nI ((atX kOp07 K1 x58).n)) w584 hF594 (by kernel_rfl) rfl (by kernel_rfl) (run_loadV rfl rfl (run_loadS rfl rfl (hS586.cell 1 rfl 2 rfl))) (l':=[(110,nI ((atX kOp07 K1 x58).n)),(109,nP (w69.heap.size) 2),(108,nI ((atX kOp07 K1 x58).of)),(107,nP (w69.heap.size) 1),(106,nP z32 0),(14,nI x580),(13,nI x579),(10,nB w69),(9,nI x58),(7,nP z32 0),(5,nP z19 0),(1,.slice (some ⟨b81,o82,none⟩) K1.length ca1)]) (by kernel_rfl) ?_
                  intro a597 hF596; clear hF594
                  have hS598:=hS586.pick2
                  clear hS586
                  refine ev_call 24 #[nP z32 0,nI ((atX kOp07 K1 x58).of),nI ((atX kOp07 K1 x58).n)] hF596 rfl rfl (by kernel_rfl) rfl (by kernel_rfl) (fun w=>by kernel_rfl) ?_
                  obtain ⟨x599,x600,s601,hx602,hm603⟩:=bind3E hm583; clear hm583
                  refine (rr_Alloc hS598 hx602).mono ?_
                  rintro _ w604 ⟨rfl,hS606⟩ a605 hF607; clear hF596 hS598
                  refine ev_runK 5 hF607 [1,5,7,9,10,13,14,15,16] (l':=[(16,nI x600),(15,nI x599),(14,nI x580),(13,nI x579),(10,nB w69),(9,nI x58),(7,nP z32 0),(5,nP z19 0),(1,.slice (some ⟨b81,o82,none⟩) K1.length ca1)]) (w':=w604) (by kernel_rfl) ?_
                  intro a609 hF608; clear hF607
                  refine wpList_nil (thenN ?_)
                  refine joinQ (fun aI wI=>∃ (y610:Bool),Fr 292 aI [(12,.bool (y610)),(10,nB w69),(9,nI x58),(7,nP z32 0),(5,nP z19 0),(1,.slice (some ⟨b81,o82,none⟩) K1.length ca1)]∧St w0 [] (RArenaP z32 z33 z34 s601::ArenaP z19 s581::BlkP (w69.heap.size) 48 #[nI ((atX kOp07 K1 x58).kind),nI ((atX kOp07 K1 x58).of),nI ((atX kOp07 K1 x58).n),nI x119,nI ((atX kOp07 K1 x58).i),nI ((atX kOp07 K1 x58).w)]::ps) wI∧ArenaPlays.j71 K1 k x58 (ArenaPlays.l48 K1 k k59) x119 s581 s601 y610=some r0) ?_ ?_
                  rotate_left
                  · rintro a612 w613 ⟨y610,hF614,hS615,hm616⟩
                    clear hF608 hS606 hm603
                    unfold ArenaPlays.j71 at hm616
                    exact thenN ⟨s601,s581,y610,hF614,hS615,hm616⟩
                  · skip
                    refine wp_region_lit ?_
                    refine ev_runs 4 hF608 (l':=[(117,.bool (x579 == x599)),(116,.bool (x579 == x599)),(115,nI x599),(114,nI x579),(16,nI x600),(15,nI x599),(14,nI x580),(13,nI x579),(10,nB w69),(9,nI x58),(7,nP z32 0),(5,nP z19 0),(1,.slice (some ⟨b81,o82,none⟩) K1.length ca1)]) (w':=w604) (by kernel_rfl) ?_
                    intro a619 hF618; clear hF608
                    cases hc620:(x579 == x599)
                    case true =>
                     rw [hc620] at hF618
                     have hm621:=ifYes hc620 hm603; clear hm603
                     refine ev_runK 5 hF618 [1,5,7,9,10,12] (l':=[(12,.bool (x580 == x600)),(10,nB w69),(9,nI x58),(7,nP z32 0),(5,nP z19 0),(1,.slice (some ⟨b81,o82,none⟩) K1.length ca1)]) (w':=w604) (by kernel_rfl) ?_
                     intro a623 hF622; clear hF618
                     refine wpList_nil ?_
                     exact thenN ⟨x580 == x600,hF622,hS606,hm621⟩
                    rw [hc620] at hF618
                    have hm624:=ifNot hc620 hm603; clear hm603
                    refine ev_runK 5 hF618 [1,5,7,9,10,12] (l':=[(12,.bool false),(10,nB w69),(9,nI x58),(7,nP z32 0),(5,nP z19 0),(1,.slice (some ⟨b81,o82,none⟩) K1.length ca1)]) (w':=w604) (by kernel_rfl) ?_
                    intro a626 hF625; clear hF618
                    refine wpList_nil ?_
                    exact thenN ⟨false,hF625,hS606,hm624⟩
              · skip
                cases hc627:(((atX kOp07 K1 x58).kind) == 2)
                case true =>
                 rw [hc627] at hF524
                 have hm628:=ifYes hc627 hm523; clear hm523
                 refine ev_condT hF524 rfl rfl ?_
                 refine wp_skip ?_
                 have hF629:=hF524.keep [1,5,7,9,10,134]
                 clear hF524
                 exact thenN ⟨true,hF629,hS141,hm628⟩
                rw [hc627] at hF524
                have hm630:=ifNot hc627 hm523; clear hm523
                refine ev_condF hF524 rfl rfl ?_
                refine wp_region_lit ?_
                refine ev_runK 2 hF524 [1,5,7,9,10,134] (l':=[(134,.bool (((atX kOp07 K1 x58).kind) == 3)),(10,nB w69),(9,nI x58),(7,nP z32 0),(5,nP z19 0),(1,.slice (some ⟨b81,o82,none⟩) K1.length ca1)]) (w':=w139) (by kernel_rfl) ?_
                intro a632 hF631; clear hF524
                refine wpList_nil ?_
                exact thenN ⟨((atX kOp07 K1 x58).kind) == 3,hF631,hS141,hm630⟩
          · skip
            cases hc633:(((atX kOp07 K1 x58).kind) == 1)
            case true =>
             rw [hc633] at hF134
             have hm634:=ifYes hc633 hm125; clear hm125
             refine ev_condT hF134 rfl rfl ?_
             refine wp_skip ?_
             exact thenN ⟨true,hF134,hS124,hm634⟩
            rw [hc633] at hF134
            have hm635:=ifNot hc633 hm125; clear hm125
            refine ev_condF hF134 rfl rfl ?_
            refine wp_region_lit ?_
            refine ev_runK 2 hF134 [1,5,7,9,10,95,122] (l':=[(122,.bool (((atX kOp07 K1 x58).kind) == 4)),(95,nI ((atX kOp07 K1 x58).kind)),(10,nB w69),(9,nI x58),(7,nP z32 0),(5,nP z19 0),(1,.slice (some ⟨b81,o82,none⟩) K1.length ca1)]) (w':=w122) (by kernel_rfl) ?_
            intro a637 hF636; clear hF134
            refine wpList_nil ?_
            exact thenN ⟨((atX kOp07 K1 x58).kind) == 4,hF636,hS124,hm635⟩
        · skip
          cases hc638:(y111)
          case true =>
           rw [hc638] at hF115
           have hm639:=ifYes hc638 hm117; clear hm117
           refine ev_condT hF115 rfl rfl ?_
           refine wp_region_lit ?_
           refine ev_runs 2 hF115 (l':=[(83,nP (w69.heap.size) 3),(82,.slice p105 (hObjsF s56).length c106),(81,.bool true),(11,.slice p105 (hObjsF s56).length c106),(10,nB w69),(9,nI x58),(7,nP z32 0),(5,nP z19 0),(1,.slice (some ⟨b81,o82,none⟩) K1.length ca1)]) (w':=w114) (by kernel_rfl) ?_
           intro a641 hF640; clear hF115
           refine ev_one (nI ((atX kOp07 K1 x58).at')) w114 hF640 (by kernel_rfl) rfl (by kernel_rfl) (run_loadV rfl rfl (run_loadS rfl rfl (hS116.cell 2 rfl 3 rfl))) (l':=[(84,nI ((atX kOp07 K1 x58).at')),(83,nP (w69.heap.size) 3),(82,.slice p105 (hObjsF s56).length c106),(81,.bool true),(11,.slice p105 (hObjsF s56).length c106),(10,nB w69),(9,nI x58),(7,nP z32 0),(5,nP z19 0),(1,.slice (some ⟨b81,o82,none⟩) K1.length ca1)]) (by kernel_rfl) ?_
           intro a643 hF642; clear hF640
           refine ev_runs 4 hF642 (l':=[(88,.int .u64 (IntKind.u64.wrap ((hObjsF s56).length:Int))),(87,nI (((hObjsF s56).length:Int))),(86,.slice p105 (hObjsF s56).length c106),(85,.int .u64 (IntKind.u64.wrap ((atX kOp07 K1 x58).at'))),(84,nI ((atX kOp07 K1 x58).at')),(83,nP (w69.heap.size) 3),(82,.slice p105 (hObjsF s56).length c106),(81,.bool true),(11,.slice p105 (hObjsF s56).length c106),(10,nB w69),(9,nI x58),(7,nP z32 0),(5,nP z19 0),(1,.slice (some ⟨b81,o82,none⟩) K1.length ca1)]) (w':=w114) (by kernel_rfl) ?_
           intro a645 hF644; clear hF642
           obtain ⟨hc646,hm647⟩:=ifFE hm639; clear hm639
           refine ev_one (.int .u64 (Int.tmod (IntKind.u64.wrap ((atX kOp07 K1 x58).at')) (IntKind.u64.wrap ((hObjsF s56).length:Int)))) w114 hF644 (by kernel_rfl) rfl (by kernel_rfl) (run_rem rfl rfl rfl hc646 _) (l':=[(89,.int .u64 (Int.tmod (IntKind.u64.wrap ((atX kOp07 K1 x58).at')) (IntKind.u64.wrap ((hObjsF s56).length:Int)))),(88,.int .u64 (IntKind.u64.wrap ((hObjsF s56).length:Int))),(87,nI (((hObjsF s56).length:Int))),(86,.slice p105 (hObjsF s56).length c106),(85,.int .u64 (IntKind.u64.wrap ((atX kOp07 K1 x58).at'))),(84,nI ((atX kOp07 K1 x58).at')),(83,nP (w69.heap.size) 3),(82,.slice p105 (hObjsF s56).length c106),(81,.bool true),(11,.slice p105 (hObjsF s56).length c106),(10,nB w69),(9,nI x58),(7,nP z32 0),(5,nP z19 0),(1,.slice (some ⟨b81,o82,none⟩) K1.length ca1)]) (by kernel_rfl) ?_
           intro a649 hF648; clear hF644
           refine ev_runs 1 hF648 (l':=[(90,nI (IntKind.i64.wrap (Int.tmod (IntKind.u64.wrap ((atX kOp07 K1 x58).at')) (IntKind.u64.wrap ((hObjsF s56).length:Int))))),(89,.int .u64 (Int.tmod (IntKind.u64.wrap ((atX kOp07 K1 x58).at')) (IntKind.u64.wrap ((hObjsF s56).length:Int)))),(88,.int .u64 (IntKind.u64.wrap ((hObjsF s56).length:Int))),(87,nI (((hObjsF s56).length:Int))),(86,.slice p105 (hObjsF s56).length c106),(85,.int .u64 (IntKind.u64.wrap ((atX kOp07 K1 x58).at'))),(84,nI ((atX kOp07 K1 x58).at')),(83,nP (w69.heap.size) 3),(82,.slice p105 (hObjsF s56).length c106),(81,.bool true),(11,.slice p105 (hObjsF s56).length c106),(10,nB w69),(9,nI x58),(7,nP z32 0),(5,nP z19 0),(1,.slice (some ⟨b81,o82,none⟩) K1.length ca1)]) (w':=w114) (by kernel_rfl) ?_
           intro a651 hF650; clear hF648
           obtain ⟨hc652,hm653⟩:=ifTE hm647; clear hm647
           obtain ⟨g654,rfl⟩:=hp107.resolve_left (by have:=inR_spec hc652; omega)
           refine ev_one (nP g654 ((IntKind.i64.wrap (Int.tmod (IntKind.u64.wrap ((atX kOp07 K1 x58).at')) (IntKind.u64.wrap ((hObjsF s56).length:Int)))).toNat)) w114 hF650 (by kernel_rfl) rfl (by kernel_rfl) (run_idx rfl rfl rfl rfl rfl (inR_spec hc652).1 (inR_spec hc652).2 _) (l':=[(91,nP g654 ((IntKind.i64.wrap (Int.tmod (IntKind.u64.wrap ((atX kOp07 K1 x58).at')) (IntKind.u64.wrap ((hObjsF s56).length:Int)))).toNat)),(90,nI (IntKind.i64.wrap (Int.tmod (IntKind.u64.wrap ((atX kOp07 K1 x58).at')) (IntKind.u64.wrap ((hObjsF s56).length:Int))))),(89,.int .u64 (Int.tmod (IntKind.u64.wrap ((atX kOp07 K1 x58).at')) (IntKind.u64.wrap ((hObjsF s56).length:Int)))),(88,.int .u64 (IntKind.u64.wrap ((hObjsF s56).length:Int))),(87,nI (((hObjsF s56).length:Int))),(86,.slice (some ⟨g654,0,none⟩) (hObjsF s56).length c106),(85,.int .u64 (IntKind.u64.wrap ((atX kOp07 K1 x58).at'))),(84,nI ((atX kOp07 K1 x58).at')),(83,nP (w69.heap.size) 3),(82,.slice (some ⟨g654,0,none⟩) (hObjsF s56).length c106),(81,.bool true),(11,.slice (some ⟨g654,0,none⟩) (hObjsF s56).length c106),(10,nB w69),(9,nI x58),(7,nP z32 0),(5,nP z19 0),(1,.slice (some ⟨b81,o82,none⟩) K1.length ca1)]) (by kernel_rfl) ?_
           intro a656 hF655; clear hF650
           refine ev_one (nI (atI (hObjsF s56) (IntKind.i64.wrap (Int.tmod (IntKind.u64.wrap ((atX kOp07 K1 x58).at')) (IntKind.u64.wrap ((hObjsF s56).length:Int)))))) w114 hF655 (by kernel_rfl) rfl (by kernel_rfl) (run_load1 rfl rfl rfl (hS116.atI 1 rfl hc652)) (l':=[(92,nI (atI (hObjsF s56) (IntKind.i64.wrap (Int.tmod (IntKind.u64.wrap ((atX kOp07 K1 x58).at')) (IntKind.u64.wrap ((hObjsF s56).length:Int)))))),(91,nP g654 ((IntKind.i64.wrap (Int.tmod (IntKind.u64.wrap ((atX kOp07 K1 x58).at')) (IntKind.u64.wrap ((hObjsF s56).length:Int)))).toNat)),(90,nI (IntKind.i64.wrap (Int.tmod (IntKind.u64.wrap ((atX kOp07 K1 x58).at')) (IntKind.u64.wrap ((hObjsF s56).length:Int))))),(89,.int .u64 (Int.tmod (IntKind.u64.wrap ((atX kOp07 K1 x58).at')) (IntKind.u64.wrap ((hObjsF s56).length:Int)))),(88,.int .u64 (IntKind.u64.wrap ((hObjsF s56).length:Int))),(87,nI (((hObjsF s56).length:Int))),(86,.slice (some ⟨g654,0,none⟩) (hObjsF s56).length c106),(85,.int .u64 (IntKind.u64.wrap ((atX kOp07 K1 x58).at'))),(84,nI ((atX kOp07 K1 x58).at')),(83,nP (w69.heap.size) 3),(82,.slice (some ⟨g654,0,none⟩) (hObjsF s56).length c106),(81,.bool true),(11,.slice (some ⟨g654,0,none⟩) (hObjsF s56).length c106),(10,nB w69),(9,nI x58),(7,nP z32 0),(5,nP z19 0),(1,.slice (some ⟨b81,o82,none⟩) K1.length ca1)]) (by kernel_rfl) ?_
           intro a658 hF657; clear hF655
           refine ev_runs 1 hF657 (l':=[(93,nP (w69.heap.size) 3),(92,nI (atI (hObjsF s56) (IntKind.i64.wrap (Int.tmod (IntKind.u64.wrap ((atX kOp07 K1 x58).at')) (IntKind.u64.wrap ((hObjsF s56).length:Int)))))),(91,nP g654 ((IntKind.i64.wrap (Int.tmod (IntKind.u64.wrap ((atX kOp07 K1 x58).at')) (IntKind.u64.wrap ((hObjsF s56).length:Int)))).toNat)),(90,nI (IntKind.i64.wrap (Int.tmod (IntKind.u64.wrap ((atX kOp07 K1 x58).at')) (IntKind.u64.wrap ((hObjsF s56).length:Int))))),(89,.int .u64 (Int.tmod (IntKind.u64.wrap ((atX kOp07 K1 x58).at')) (IntKind.u64.wrap ((hObjsF s56).length:Int)))),(88,.int .u64 (IntKind.u64.wrap ((hObjsF s56).length:Int))),(87,nI (((hObjsF s56).length:Int))),(86,.slice (some ⟨g654,0,none⟩) (hObjsF s56).length c106),(85,.int .u64 (IntKind.u64.wrap ((atX kOp07 K1 x58).at'))),(84,nI ((atX kOp07 K1 x58).at')),(83,nP (w69.heap.size) 3),(82,.slice (some ⟨g654,0,none⟩) (hObjsF s56).length c106),(81,.bool true),(11,.slice (some ⟨g654,0,none⟩) (hObjsF s56).length c106),(10,nB w69),(9,nI x58),(7,nP z32 0),(5,nP z19 0),(1,.slice (some ⟨b81,o82,none⟩) K1.length ca1)]) (w':=w114) (by kernel_rfl) ?_
           intro a660 hF659; clear hF657
           have hS661:=hS116.pick2
           clear hS116
           refine ev_store (nI (atI (hObjsF s56) (IntKind.i64.wrap (Int.tmod (IntKind.u64.wrap ((atX kOp07 K1 x58).at')) (IntKind.u64.wrap ((hObjsF s56).length:Int)))))) #[nI ((atX kOp07 K1 x58).kind),nI ((atX kOp07 K1 x58).of),nI ((atX kOp07 K1 x58).n),nI (atI (hObjsF s56) (IntKind.i64.wrap (Int.tmod (IntKind.u64.wrap ((atX kOp07 K1 x58).at')) (IntKind.u64.wrap ((hObjsF s56).length:Int))))),nI ((atX kOp07 K1 x58).i),nI ((atX kOp07 K1 x58).w)] hF659 (by kernel_rfl) rfl rfl rfl rfl (by kernel_rfl) hS661 (by kernel_rfl) (by kernel_rfl) (by kernel_rfl) (l':=[(93,nP (w69.heap.size) 3),(92,nI (atI (hObjsF s56) (IntKind.i64.wrap (Int.tmod (IntKind.u64.wrap ((atX kOp07 K1 x58).at')) (IntKind.u64.wrap ((hObjsF s56).length:Int)))))),(91,nP g654 ((IntKind.i64.wrap (Int.tmod (IntKind.u64.wrap ((atX kOp07 K1 x58).at')) (IntKind.u64.wrap ((hObjsF s56).length:Int)))).toNat)),(90,nI (IntKind.i64.wrap (Int.tmod (IntKind.u64.wrap ((atX kOp07 K1 x58).at')) (IntKind.u64.wrap ((hObjsF s56).length:Int))))),(89,.int .u64 (Int.tmod (IntKind.u64.wrap ((atX kOp07 K1 x58).at')) (IntKind.u64.wrap ((hObjsF s56).length:Int)))),(88,.int .u64 (IntKind.u64.wrap ((hObjsF s56).length:Int))),(87,nI (((hObjsF s56).length:Int))),(86,.slice (some ⟨g654,0,none⟩) (hObjsF s56).length c106),(85,.int .u64 (IntKind.u64.wrap ((atX kOp07 K1 x58).at'))),(84,nI ((atX kOp07 K1 x58).at')),(83,nP (w69.heap.size) 3),(82,.slice (some ⟨g654,0,none⟩) (hObjsF s56).length c106),(81,.bool true),(11,.slice (some ⟨g654,0,none⟩) (hObjsF s56).length c106),(10,nB w69),(9,nI x58),(7,nP z32 0),(5,nP z19 0),(1,.slice (some ⟨b81,o82,none⟩) K1.length ca1)]) (by kernel_rfl) ?_
           intro w662 a663 hS664 hF665; clear hF659 hS661
           refine wpList_nil ?_
           have hF666:=hF665.keep [1,5,7,9,10]
           clear hF665
           have hS667:=hS664.pick2.drop
           clear hS664
           exact thenN ⟨atI (hObjsF s56) (IntKind.i64.wrap (Int.tmod (IntKind.u64.wrap ((atX kOp07 K1 x58).at')) (IntKind.u64.wrap ((hObjsF s56).length:Int)))),hF666,hS667,hm653⟩
          rw [hc638] at hF115
          have hm668:=ifNot hc638 hm117; clear hm117
          refine ev_condF hF115 rfl rfl ?_
          refine wp_skip ?_
          have hF669:=hF115.keep [1,5,7,9,10]
          clear hF115
          have hS670:=hS116.pick1.drop
          clear hS116
          have hS671:=hS670.pick2.pick1.pick2
          clear hS670
          exact thenN ⟨(atX kOp07 K1 x58).at',hF669,hS671,hm668⟩
      · skip
        refine wp_region_lit ?_
        refine ev_runs 1 hF109 (l':=[(69,nB w69),(11,.slice p105 (hObjsF s56).length c106),(10,nB w69),(9,nI x58),(7,nP z32 0),(5,nP z19 0),(1,.slice (some ⟨b81,o82,none⟩) K1.length ca1)]) (w':=w99) (by kernel_rfl) ?_
        intro a673 hF672; clear hF109
        refine ev_one (nI ((atX kOp07 K1 x58).kind)) w99 hF672 (by kernel_rfl) rfl (by kernel_rfl) (run_loadV rfl rfl (run_loadS rfl rfl (hS101.cell 2 rfl 0 rfl))) (l':=[(70,nI ((atX kOp07 K1 x58).kind)),(69,nB w69),(11,.slice p105 (hObjsF s56).length c106),(10,nB w69),(9,nI x58),(7,nP z32 0),(5,nP z19 0),(1,.slice (some ⟨b81,o82,none⟩) K1.length ca1)]) (by kernel_rfl) ?_
        intro a675 hF674; clear hF672
        refine ev_runs 2 hF674 (l':=[(72,.bool (((atX kOp07 K1 x58).kind) == 3)),(71,.bool (((atX kOp07 K1 x58).kind) == 3)),(70,nI ((atX kOp07 K1 x58).kind)),(69,nB w69),(11,.slice p105 (hObjsF s56).length c106),(10,nB w69),(9,nI x58),(7,nP z32 0),(5,nP z19 0),(1,.slice (some ⟨b81,o82,none⟩) K1.length ca1)]) (w':=w99) (by kernel_rfl) ?_
        intro a677 hF676; clear hF674
        cases hc678:(((atX kOp07 K1 x58).kind) == 3)
        case true =>
         rw [hc678] at hF676
         have hm679:=ifYes hc678 hm80; clear hm80
         refine ev_runK 9 hF676 [1,5,7,9,10,11,81] (l':=[(81,.bool (decide (((hObjsF s56).length:Int) > 0))),(11,.slice p105 (hObjsF s56).length c106),(10,nB w69),(9,nI x58),(7,nP z32 0),(5,nP z19 0),(1,.slice (some ⟨b81,o82,none⟩) K1.length ca1)]) (w':=w99) (by kernel_rfl) ?_
         intro a681 hF680; clear hF676
         refine wpList_nil ?_
         exact thenN ⟨decide (((hObjsF s56).length:Int) > 0),hF680,hS101,hm679⟩
        rw [hc678] at hF676
        have hm682:=ifNot hc678 hm80; clear hm80
        refine ev_runs 1 hF676 (l':=[(73,nB w69),(72,.bool false),(71,.bool false),(70,nI ((atX kOp07 K1 x58).kind)),(69,nB w69),(11,.slice p105 (hObjsF s56).length c106),(10,nB w69),(9,nI x58),(7,nP z32 0),(5,nP z19 0),(1,.slice (some ⟨b81,o82,none⟩) K1.length ca1)]) (w':=w99) (by kernel_rfl) ?_
        intro a684 hF683; clear hF676
        refine ev_one (nI ((atX kOp07 K1 x58).kind)) w99 hF683 (by kernel_rfl) rfl (by kernel_rfl) (run_loadV rfl rfl (run_loadS rfl rfl (hS101.cell 2 rfl 0 rfl))) (l':=[(74,nI ((atX kOp07 K1 x58).kind)),(73,nB w69),(72,.bool false),(71,.bool false),(70,nI ((atX kOp07 K1 x58).kind)),(69,nB w69),(11,.slice p105 (hObjsF s56).length c106),(10,nB w69),(9,nI x58),(7,nP z32 0),(5,nP z19 0),(1,.slice (some ⟨b81,o82,none⟩) K1.length ca1)]) (by kernel_rfl) ?_
        intro a686 hF685; clear hF683
        refine ev_runs 3 hF685 (l':=[(77,.bool (((atX kOp07 K1 x58).kind) == 4)),(76,.bool (((atX kOp07 K1 x58).kind) == 4)),(75,.bool (((atX kOp07 K1 x58).kind) == 4)),(74,nI ((atX kOp07 K1 x58).kind)),(73,nB w69),(72,.bool false),(71,.bool false),(70,nI ((atX kOp07 K1 x58).kind)),(69,nB w69),(11,.slice p105 (hObjsF s56).length c106),(10,nB w69),(9,nI x58),(7,nP z32 0),(5,nP z19 0),(1,.slice (some ⟨b81,o82,none⟩) K1.length ca1)]) (w':=w99) (by kernel_rfl) ?_
        intro a688 hF687; clear hF685
        cases hc689:(((atX kOp07 K1 x58).kind) == 4)
        case true =>
         rw [hc689] at hF687
         have hm690:=ifYes hc689 hm682; clear hm682
         refine ev_runK 4 hF687 [1,5,7,9,10,11,81] (l':=[(81,.bool (decide (((hObjsF s56).length:Int) > 0))),(11,.slice p105 (hObjsF s56).length c106),(10,nB w69),(9,nI x58),(7,nP z32 0),(5,nP z19 0),(1,.slice (some ⟨b81,o82,none⟩) K1.length ca1)]) (w':=w99) (by kernel_rfl) ?_
         intro a692 hF691; clear hF687
         refine wpList_nil ?_
         exact thenN ⟨decide (((hObjsF s56).length:Int) > 0),hF691,hS101,hm690⟩
        rw [hc689] at hF687
        have hm693:=ifNot hc689 hm682; clear hm682
        refine ev_runK 4 hF687 [1,5,7,9,10,11,81] (l':=[(81,.bool false),(11,.slice p105 (hObjsF s56).length c106),(10,nB w69),(9,nI x58),(7,nP z32 0),(5,nP z19 0),(1,.slice (some ⟨b81,o82,none⟩) K1.length ca1)]) (w':=w99) (by kernel_rfl) ?_
        intro a695 hF694; clear hF687
        refine wpList_nil ?_
        exact thenN ⟨false,hF694,hS101,hm693⟩
     rw [hc74] at hF70
     have hm696:=ifNot hc74 hm72; clear hm72
     refine ev_condF hF70 rfl rfl ?_
     refine wp_exit ?_
     refine thenE ?_
     refine thenE ?_
     refine blockE ?_
     refine thenN (wp_seq (wp_region_lit ?_))
     refine ev_runK 1 hF70 [4] (l':=[(4,.bool true)]) (w':=w69) (by kernel_rfl) ?_
     intro a698 hF697; clear hF70
     refine wpList_nil ?_
     have hS699:=hS71.drop.drop
     clear hS71
     refine thenN ?_
     refine wp_ret ?_
     obtain rfl:=Option.some.inj hm696
     refine ev_ret hF697 [4] (.bool true) rfl rfl rfl ?_
     exact ⟨rfl,hS699⟩
   · skip
     refine wp_region_lit ?_
     refine ev_runs 5 hF62 (l':=[(57,.bool (decide (x58<(K1.length:Int)))),(56,.bool (decide (x58<(K1.length:Int)))),(55,nI ((K1.length:Int))),(54,.slice pa1 K1.length ca1),(53,nI x58),(9,nI x58),(7,nP z32 0),(5,nP z19 0),(1,.slice pa1 K1.length ca1)]) (w':=w61) (by kernel_rfl) ?_
     intro a702 hF701; clear hF62
     cases hc703:(decide (x58<(K1.length:Int)))
     case true =>
      rw [hc703] at hF701
      have hm704:=ifYes hc703 hm65; clear hm65
      refine ev_runK 3 hF701 [1,5,7,9,60] (l':=[(60,.bool (decide (x58<60))),(9,nI x58),(7,nP z32 0),(5,nP z19 0),(1,.slice pa1 K1.length ca1)]) (w':=w61) (by kernel_rfl) ?_
      intro a706 hF705; clear hF701
      refine wpList_nil ?_
      exact thenN ⟨decide (x58<60),hF705,hS63,hm704⟩
     rw [hc703] at hF701
     have hm707:=ifNot hc703 hm65; clear hm65
     refine ev_runK 3 hF701 [1,5,7,9,60] (l':=[(60,.bool false),(9,nI x58),(7,nP z32 0),(5,nP z19 0),(1,.slice pa1 K1.length ca1)]) (w':=w61) (by kernel_rfl) ?_
     intro a709 hF708; clear hF701
     refine wpList_nil ?_
     exact thenN ⟨false,hF708,hS63,hm707⟩
 · skip
   refine wp_region_lit ?_
   refine ev_call 17 #[] hF36 rfl rfl (by kernel_rfl) rfl (by kernel_rfl) (fun w=>by kernel_rfl) ?_
   obtain ⟨y710,hx711,hm712⟩:=bind1E hm27; clear hm27
   refine (law07_awake.ok hS30 hx711).mono ?_
   rintro _ w713 ⟨rfl,hS715⟩ a714 hF716; clear hF36 hS30
   refine ev_runs 2 hF716 (l':=[(44,.bool (!(y710))),(43,.bool (!(y710))),(42,.bool (y710)),(8,nI 0),(7,nP z32 0),(6,nI 0),(5,nP z19 0),(1,.slice pa1 K1.length ca1)]) (w':=w713) (by kernel_rfl) ?_
   intro a718 hF717; clear hF716
   cases hc719:(!(y710))
   case true =>
    rw [hc719] at hF717
    have hm720:=ifYes hc719 hm712; clear hm712
    refine ev_runK 8 hF717 [1,5,7,52] (l':=[(52,.bool true),(7,nP z32 0),(5,nP z19 0),(1,.slice pa1 K1.length ca1)]) (w':=w713) (by kernel_rfl) ?_
    intro a722 hF721; clear hF717
    refine wpList_nil ?_
    exact thenN ⟨true,hF721,hS715,hm720⟩
   rw [hc719] at hF717
   have hm723:=ifNot hc719 hm712; clear hm712
   refine ev_runK 8 hF717 [1,5,7,52] (l':=[(52,.bool false),(7,nP z32 0),(5,nP z19 0),(1,.slice pa1 K1.length ca1)]) (w':=w713) (by kernel_rfl) ?_
   intro a725 hF724; clear hF717
   refine wpList_nil ?_
   exact thenN ⟨false,hF724,hS715,hm723⟩
end Go.Proofs.Ytffnjpapggidlaa
