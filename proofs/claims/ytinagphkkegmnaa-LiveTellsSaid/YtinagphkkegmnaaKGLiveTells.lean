/- GLiveTells -/
import Derived.Test.YtinagphkkegmnaaKG22Q
import Derived.Test.YtinagphkkegmnaaKGLiveK
import Derived.Test.YtinagphkkegmnaaKGRefLive
import Derived.Deep.LoopGhost
import Derived.KernelRfl
namespace Go.Proofs.Ytinagphkkegmnaa
open Go.RowKit
set_option linter.unusedVariables false
def LiveTells.j2 (y47:Bool):Option (Bool):=some (y47)
def LiveTells.j1 (K1:List Int) (k:Nat) (s5:HSt) (s6:HSt) (y24:Bool):Option (Bool):=(if (y24) then bind1 (law22_awake.m k ) fun y34=>some (y34) else bind2 (live_ReachK.m k s5 K1) fun L58 s59=>bind2 (ref06_ReachK.m k s6 K1) fun L75 s76=>bind1 (help_Plain.m k L58 L75) fun y90=>(if (y90) then bind2 (live_LostK.m k s59 K1) fun L104 s105=>bind2 (ref06_LostK.m k s76 K1) fun L121 s122=>bind1 (help_Plain.m k L104 L121) fun y136=>(if (y136) then bind2 (live_BrokenK.m k s105 K1) fun L150 s151=>bind2 (ref06_BrokenK.m k s122 K1) fun L167 s168=>bind1 (help_Plain.m k L150 L167) fun y182=>LiveTells.j2 y182 else LiveTells.j2 false) else LiveTells.j2 false))
def LiveTells.m (k:Nat) (K0:List Op22) (K1:List Int):Option (Bool):=bind2 (law22_builtQ.m k K0) fun s5 s6=>bind1 (law22_awake.m k ) fun y200=>(if (!(y200)) then LiveTells.j1 K1 k s5 s6 true else LiveTells.j1 K1 k s5 s6 (decide ((K1.length:Int) > 50)))
set_option maxRecDepth 100000 in
set_option maxHeartbeats 1500000 in
theorem LiveTells.ok {w0 w:World} {ps:List Piece} {k:Nat} {pa0:Option Addr} {ca0:Nat} {K0:List Op22} (hA0:ArgX kOp w0 (.slice pa0 K0.length ca0) K0) {pa1:Option Addr} {ca1:Nat} {K1:List Int} (hA1:ArgInts w0 (.slice pa1 K1.length ca1) K1) {r0:Bool} (hS:St w0 [] (ps) w) (hm:LiveTells.m k K0 K1=some r0) :
    Calls Try.prog 4 #[.slice pa0 K0.length ca0,.slice pa1 K1.length ca1] w fun e w'=>e=.returned (.bool r0)∧St w0 [] (ps) w':=by
 refine ev_enterL 53 [.slice pa0 K0.length ca0,.slice pa1 K1.length ca1] Try.func4 rfl rfl (by simp) ?_
 intro a hF
 have hF0:Fr 53 a [(0,.slice pa0 K0.length ca0),(1,.slice pa1 K1.length ca1)]:=hF; clear hF
 unfold LiveTells.m at hm
 refine wp_seq (wp_region_lit ?_)
 refine ev_runK 1 hF0 [0,1] (l':=[(0,.slice pa0 K0.length ca0),(1,.slice pa1 K1.length ca1)]) (w':=w) (by kernel_rfl) ?_
 intro a2 hF1; clear hF0
 refine wpList_nil (thenN (wp_seq (wp_region_lit ?_)))
 refine ev_runs 1 hF1 (l':=[(8,.slice pa0 K0.length ca0),(0,.slice pa0 K0.length ca0),(1,.slice pa1 K1.length ca1)]) (w':=w) (by kernel_rfl) ?_
 intro a4 hF3; clear hF1
 refine ev_call 27 #[.slice pa0 K0.length ca0] hF3 rfl rfl (by kernel_rfl) rfl (by kernel_rfl) (fun w=>by kernel_rfl) ?_
 obtain ⟨s5,s6,hx7,hm8⟩:=bind2E hm; clear hm
 refine (law22_builtQ.ok hA0 hS hx7).mono ?_
 rintro _ w9 ⟨z13,z14,z15,z16,z17,z18,z19,rfl,hS11⟩ a10 hF12; clear hF3 hS
 refine ev_runK 5 hF12 [1,5,6] (l':=[(6,nP z15 0),(5,nP z13 0),(1,.slice pa1 K1.length ca1)]) (w':=w9) (by kernel_rfl) ?_
 intro a23 hF22; clear hF12
 refine wpList_nil (thenN (wp_seq (wp_seq ?_)))
 refine joinQ (fun aI wI=>∃ (y24:Bool),Fr 53 aI [(26,.bool (y24)),(6,nP z15 0),(5,nP z13 0),(1,.slice pa1 K1.length ca1)]∧St w0 [] (HeapP z13 z14 s5::RHeapP z15 z16 z17 z18 z19 s6::ps) wI∧LiveTells.j1 K1 k s5 s6 y24=some r0) ?_ ?_
 rotate_left
 · rintro a26 w27 ⟨y24,hF28,hS29,hm30⟩
   clear hF22 hS11 hm8
   unfold LiveTells.j1 at hm30
   refine thenN ?_
   cases hc32:(y24)
   case true =>
    rw [hc32] at hF28
    have hm33:=ifYes hc32 hm30; clear hm30
    refine ev_condT hF28 rfl rfl ?_
    refine wp_seq (wp_region_lit ?_)
    refine ev_call 28 #[] hF28 rfl rfl (by kernel_rfl) rfl (by kernel_rfl) (fun w=>by kernel_rfl) ?_
    obtain ⟨y34,hx35,hm36⟩:=bind1E hm33; clear hm33
    refine (law22_awake.ok hS29 hx35).mono ?_
    rintro _ w37 ⟨rfl,hS39⟩ a38 hF40; clear hF28 hS29
    refine ev_runK 1 hF40 [4] (l':=[(4,.bool (y34))]) (w':=w37) (by kernel_rfl) ?_
    intro a42 hF41; clear hF40
    refine wpList_nil ?_
    have hS43:=hS39.drop.drop
    clear hS39
    refine thenN ?_
    refine wp_ret ?_
    refine thenR ?_
    obtain rfl:=Option.some.inj hm36
    refine ev_ret hF41 [4] (.bool (y34)) rfl rfl rfl ?_
    exact ⟨rfl,hS43⟩
   rw [hc32] at hF28
   have hm45:=ifNot hc32 hm30; clear hm30
   refine ev_condF hF28 rfl rfl ?_
   refine wp_skip ?_
   have hF46:=hF28.keep [1,5,6]
   clear hF28
   refine thenN (wp_seq ?_)
   refine joinQ (fun aI wI=>∃ (y47:Bool),Fr 53 aI [(4,.bool (y47))]∧St w0 [] (ps) wI∧LiveTells.j2 y47=some r0) ?_ ?_
   rotate_left
   · rintro a49 w50 ⟨y47,hF51,hS52,hm53⟩
     clear hF46 hS29 hm45
     unfold LiveTells.j2 at hm53
     refine thenN ?_
     refine wp_ret ?_
     obtain rfl:=Option.some.inj hm53
     refine ev_ret hF51 [4] (.bool (y47)) rfl rfl rfl ?_
     exact ⟨rfl,hS52⟩
   · skip
     refine wp_region_lit ?_
     refine ev_runs 2 hF46 (l':=[(29,.slice pa1 K1.length ca1),(28,nP z13 0),(6,nP z15 0),(5,nP z13 0),(1,.slice pa1 K1.length ca1)]) (w':=w27) (by kernel_rfl) ?_
     intro a57 hF56; clear hF46
     refine ev_call 29 #[nP z13 0,.slice pa1 K1.length ca1] hF56 rfl rfl (by kernel_rfl) rfl (by kernel_rfl) (fun w=>by kernel_rfl) ?_
     obtain ⟨L58,s59,hx60,hm61⟩:=bind2E hm45; clear hm45
     refine (live_ReachK.ok hA1 hS29 hx60).mono ?_
     rintro _ w62 ⟨z66,rfl,hS64⟩ a63 hF65; clear hF56 hS29
     obtain ⟨hl71,p68,c69,rfl,hp70⟩:=St.shape hS64 1 rfl
     refine ev_runs 2 hF65 (l':=[(32,.slice pa1 K1.length ca1),(31,nP z15 0),(30,.slice p68 L58.length c69),(29,.slice pa1 K1.length ca1),(28,nP z13 0),(6,nP z15 0),(5,nP z13 0),(1,.slice pa1 K1.length ca1)]) (w':=w62) (by kernel_rfl) ?_
     intro a73 hF72; clear hF65
     have hS74:=hS64.pick2
     clear hS64
     refine ev_call 30 #[nP z15 0,.slice pa1 K1.length ca1] hF72 rfl rfl (by kernel_rfl) rfl (by kernel_rfl) (fun w=>by kernel_rfl) ?_
     obtain ⟨L75,s76,hx77,hm78⟩:=bind2E hm61; clear hm61
     refine (ref06_ReachK.ok hA1 hS74 hx77).mono ?_
     rintro _ w79 ⟨z83,rfl,hS81⟩ a80 hF82; clear hF72 hS74
     obtain ⟨hl88,p85,c86,rfl,hp87⟩:=St.shape hS81 1 rfl
     have hS89:=hS81.pick1.pick3
     clear hS81
     refine ev_call 16 #[.slice p68 L58.length c69,.slice p85 L75.length c86] hF82 rfl rfl (by kernel_rfl) rfl (by kernel_rfl) (fun w=>by kernel_rfl) ?_
     obtain ⟨y90,hx91,hm92⟩:=bind1E hm78; clear hm78
     refine (help_Plain.ok hS89 hx91).mono ?_
     rintro _ w93 ⟨rfl,hS95⟩ a94 hF96; clear hF82 hS89
     refine ev_runs 1 hF96 (l':=[(35,.bool (y90)),(34,.bool (y90)),(33,.slice p85 L75.length c86),(32,.slice pa1 K1.length ca1),(31,nP z15 0),(30,.slice p68 L58.length c69),(29,.slice pa1 K1.length ca1),(28,nP z13 0),(6,nP z15 0),(5,nP z13 0),(1,.slice pa1 K1.length ca1)]) (w':=w93) (by kernel_rfl) ?_
     intro a98 hF97; clear hF96
     cases hc99:(y90)
     case true =>
      rw [hc99] at hF97
      have hm100:=ifYes hc99 hm92; clear hm92
      refine ev_runs 2 hF97 (l':=[(37,.slice pa1 K1.length ca1),(36,nP z13 0),(35,.bool true),(34,.bool true),(33,.slice p85 L75.length c86),(32,.slice pa1 K1.length ca1),(31,nP z15 0),(30,.slice p68 L58.length c69),(29,.slice pa1 K1.length ca1),(28,nP z13 0),(6,nP z15 0),(5,nP z13 0),(1,.slice pa1 K1.length ca1)]) (w':=w93) (by kernel_rfl) ?_
      intro a102 hF101; clear hF97
      have hS103:=hS95.pick3
      clear hS95
      refine ev_call 31 #[nP z13 0,.slice pa1 K1.length ca1] hF101 rfl rfl (by kernel_rfl) rfl (by kernel_rfl) (fun w=>by kernel_rfl) ?_
      obtain ⟨L104,s105,hx106,hm107⟩:=bind2E hm100; clear hm100
      refine (live_LostK.ok hA1 hS103 hx106).mono ?_
      rintro _ w108 ⟨z112,rfl,hS110⟩ a109 hF111; clear hF101 hS103
      obtain ⟨hl117,p114,c115,rfl,hp116⟩:=St.shape hS110 1 rfl
      refine ev_runs 2 hF111 (l':=[(40,.slice pa1 K1.length ca1),(39,nP z15 0),(38,.slice p114 L104.length c115),(37,.slice pa1 K1.length ca1),(36,nP z13 0),(35,.bool true),(34,.bool true),(33,.slice p85 L75.length c86),(32,.slice pa1 K1.length ca1),(31,nP z15 0),(30,.slice p68 L58.length c69),(29,.slice pa1 K1.length ca1),(28,nP z13 0),(6,nP z15 0),(5,nP z13 0),(1,.slice pa1 K1.length ca1)]) (w':=w108) (by kernel_rfl) ?_
      intro a119 hF118; clear hF111
      have hS120:=hS110.pick4
      clear hS110
      refine ev_call 32 #[nP z15 0,.slice pa1 K1.length ca1] hF118 rfl rfl (by kernel_rfl) rfl (by kernel_rfl) (fun w=>by kernel_rfl) ?_
      obtain ⟨L121,s122,hx123,hm124⟩:=bind2E hm107; clear hm107
      refine (ref06_LostK.ok hA1 hS120 hx123).mono ?_
      rintro _ w125 ⟨z129,rfl,hS127⟩ a126 hF128; clear hF118 hS120
      obtain ⟨hl134,p131,c132,rfl,hp133⟩:=St.shape hS127 1 rfl
      have hS135:=hS127.pick1.pick3
      clear hS127
      refine ev_call 16 #[.slice p114 L104.length c115,.slice p131 L121.length c132] hF128 rfl rfl (by kernel_rfl) rfl (by kernel_rfl) (fun w=>by kernel_rfl) ?_
      obtain ⟨y136,hx137,hm138⟩:=bind1E hm124; clear hm124
      refine (help_Plain.ok hS135 hx137).mono ?_
      rintro _ w139 ⟨rfl,hS141⟩ a140 hF142; clear hF128 hS135
      refine ev_runs 2 hF142 (l':=[(44,.bool (y136)),(43,.bool (y136)),(42,.bool (y136)),(41,.slice p131 L121.length c132),(40,.slice pa1 K1.length ca1),(39,nP z15 0),(38,.slice p114 L104.length c115),(37,.slice pa1 K1.length ca1),(36,nP z13 0),(35,.bool true),(34,.bool true),(33,.slice p85 L75.length c86),(32,.slice pa1 K1.length ca1),(31,nP z15 0),(30,.slice p68 L58.length c69),(29,.slice pa1 K1.length ca1),(28,nP z13 0),(6,nP z15 0),(5,nP z13 0),(1,.slice pa1 K1.length ca1)]) (w':=w139) (by kernel_rfl) ?_
      intro a144 hF143; clear hF142
      cases hc145:(y136)
      case true =>
       rw [hc145] at hF143
       have hm146:=ifYes hc145 hm138; clear hm138
       refine ev_runs 2 hF143 (l':=[(46,.slice pa1 K1.length ca1),(45,nP z13 0),(44,.bool true),(43,.bool true),(42,.bool true),(41,.slice p131 L121.length c132),(40,.slice pa1 K1.length ca1),(39,nP z15 0),(38,.slice p114 L104.length c115),(37,.slice pa1 K1.length ca1),(36,nP z13 0),(35,.bool true),(34,.bool true),(33,.slice p85 L75.length c86),(32,.slice pa1 K1.length ca1),(31,nP z15 0),(30,.slice p68 L58.length c69),(29,.slice pa1 K1.length ca1),(28,nP z13 0),(6,nP z15 0),(5,nP z13 0),(1,.slice pa1 K1.length ca1)]) (w':=w139) (by kernel_rfl) ?_
       intro a148 hF147; clear hF143
       have hS149:=hS141.pick3
       clear hS141
       refine ev_call 33 #[nP z13 0,.slice pa1 K1.length ca1] hF147 rfl rfl (by kernel_rfl) rfl (by kernel_rfl) (fun w=>by kernel_rfl) ?_
       obtain ⟨L150,s151,hx152,hm153⟩:=bind2E hm146; clear hm146
       refine (live_BrokenK.ok hA1 hS149 hx152).mono ?_
       rintro _ w154 ⟨z158,rfl,hS156⟩ a155 hF157; clear hF147 hS149
       obtain ⟨hl163,p160,c161,rfl,hp162⟩:=St.shape hS156 1 rfl
       refine ev_runs 2 hF157 (l':=[(49,.slice pa1 K1.length ca1),(48,nP z15 0),(47,.slice p160 L150.length c161),(46,.slice pa1 K1.length ca1),(45,nP z13 0),(44,.bool true),(43,.bool true),(42,.bool true),(41,.slice p131 L121.length c132),(40,.slice pa1 K1.length ca1),(39,nP z15 0),(38,.slice p114 L104.length c115),(37,.slice pa1 K1.length ca1),(36,nP z13 0),(35,.bool true),(34,.bool true),(33,.slice p85 L75.length c86),(32,.slice pa1 K1.length ca1),(31,nP z15 0),(30,.slice p68 L58.length c69),(29,.slice pa1 K1.length ca1),(28,nP z13 0),(6,nP z15 0),(5,nP z13 0),(1,.slice pa1 K1.length ca1)]) (w':=w154) (by kernel_rfl) ?_
       intro a165 hF164; clear hF157
       have hS166:=hS156.pick4
       clear hS156
       refine ev_call 34 #[nP z15 0,.slice pa1 K1.length ca1] hF164 rfl rfl (by kernel_rfl) rfl (by kernel_rfl) (fun w=>by kernel_rfl) ?_
       obtain ⟨L167,s168,hx169,hm170⟩:=bind2E hm153; clear hm153
       refine (ref06_BrokenK.ok hA1 hS166 hx169).mono ?_
       rintro _ w171 ⟨z175,rfl,hS173⟩ a172 hF174; clear hF164 hS166
       obtain ⟨hl180,p177,c178,rfl,hp179⟩:=St.shape hS173 1 rfl
       have hS181:=hS173.pick1.pick3
       clear hS173
       refine ev_call 16 #[.slice p160 L150.length c161,.slice p177 L167.length c178] hF174 rfl rfl (by kernel_rfl) rfl (by kernel_rfl) (fun w=>by kernel_rfl) ?_
       obtain ⟨y182,hx183,hm184⟩:=bind1E hm170; clear hm170
       refine (help_Plain.ok hS181 hx183).mono ?_
       rintro _ w185 ⟨rfl,hS187⟩ a186 hF188; clear hF174 hS181
       refine ev_runK 2 hF188 [4] (l':=[(4,.bool (y182))]) (w':=w185) (by kernel_rfl) ?_
       intro a190 hF189; clear hF188
       refine wpList_nil ?_
       have hS191:=hS187.drop.drop.drop.drop.drop.drop.drop.drop
       clear hS187
       exact thenN ⟨y182,hF189,hS191,hm184⟩
      rw [hc145] at hF143
      have hm192:=ifNot hc145 hm138; clear hm138
      refine ev_runK 9 hF143 [4] (l':=[(4,.bool false)]) (w':=w139) (by kernel_rfl) ?_
      intro a194 hF193; clear hF143
      refine wpList_nil ?_
      have hS195:=hS141.drop.drop.drop.drop.drop.drop
      clear hS141
      exact thenN ⟨false,hF193,hS195,hm192⟩
     rw [hc99] at hF97
     have hm196:=ifNot hc99 hm92; clear hm92
     refine ev_runK 18 hF97 [4] (l':=[(4,.bool false)]) (w':=w93) (by kernel_rfl) ?_
     intro a198 hF197; clear hF97
     refine wpList_nil ?_
     have hS199:=hS95.drop.drop.drop.drop
     clear hS95
     exact thenN ⟨false,hF197,hS199,hm196⟩
 · skip
   refine wp_region_lit ?_
   refine ev_call 28 #[] hF22 rfl rfl (by kernel_rfl) rfl (by kernel_rfl) (fun w=>by kernel_rfl) ?_
   obtain ⟨y200,hx201,hm202⟩:=bind1E hm8; clear hm8
   refine (law22_awake.ok hS11 hx201).mono ?_
   rintro _ w203 ⟨rfl,hS205⟩ a204 hF206; clear hF22 hS11
   refine ev_runs 2 hF206 (l':=[(14,.bool (!(y200))),(13,.bool (!(y200))),(12,.bool (y200)),(6,nP z15 0),(5,nP z13 0),(1,.slice pa1 K1.length ca1)]) (w':=w203) (by kernel_rfl) ?_
   intro a208 hF207; clear hF206
   cases hc209:(!(y200))
   case true =>
    rw [hc209] at hF207
    have hm210:=ifYes hc209 hm202; clear hm202
    refine ev_runK 12 hF207 [1,5,6,26] (l':=[(26,.bool true),(6,nP z15 0),(5,nP z13 0),(1,.slice pa1 K1.length ca1)]) (w':=w203) (by kernel_rfl) ?_
    intro a212 hF211; clear hF207
    refine wpList_nil ?_
    exact thenN ⟨true,hF211,hS205,hm210⟩
   rw [hc209] at hF207
   have hm213:=ifNot hc209 hm202; clear hm202
   refine ev_runK 12 hF207 [1,5,6,26] (l':=[(26,.bool (decide ((K1.length:Int) > 50))),(6,nP z15 0),(5,nP z13 0),(1,.slice pa1 K1.length ca1)]) (w':=w203) (by kernel_rfl) ?_
   intro a215 hF214; clear hF207
   refine wpList_nil ?_
   exact thenN ⟨decide ((K1.length:Int) > 50),hF214,hS205,hm213⟩
end Go.Proofs.Ytinagphkkegmnaa
