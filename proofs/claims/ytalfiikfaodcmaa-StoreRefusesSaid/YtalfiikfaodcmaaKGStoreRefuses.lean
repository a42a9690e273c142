/- GStoreRefuses -/
import Derived.Test.YtalfiikfaodcmaaKGStore
import Derived.Test.YtalfiikfaodcmaaKGStoreE
import Derived.Deep.LoopGhost
import Derived.KernelRfl
namespace Go.Proofs.Ytalfiikfaodcmaa
open Go.RowKit
set_option linter.unusedVariables false
def StoreRefuses.j3 (y149:Bool):Option (Bool):=some (y149)
def StoreRefuses.j2 (i1:Int) (i2:Int) (k:Nat) (x13:Int) (y27:Bool) (s42:HSt) (x43:Int) (x44:Int) (x45:Int) (y60:Bool):Option (Bool):=(if (y60) then some (false) else bind4 (store_Alloc.m k s42 x43 x44 x45 [(⟨5,0⟩:Nd),(⟨i1,i2⟩:Nd)] []) fun L83 L84 x85 s86=>bind3 (store_AllocN.m k [] []) fun L125 L126 x127=>bind1 (law21_awake.m k ) fun y158=>(if (y158) then (if ((x13 == 0) == (y27)) then (if ((true) == (y27)) then (if ((x85 == 0) == (rKnown i1 i2)) then (if (x85 == 0) then (if (x127 == 2) then bind1 (store_HeapN.m k ) fun u191=>bind1 (store_CollectN.m k []) fun L202=>StoreRefuses.j3 ((L202.length:Int) == 0) else StoreRefuses.j3 false) else (if (x85 == 1) then (if (x127 == 2) then bind1 (store_HeapN.m k ) fun u233=>bind1 (store_CollectN.m k []) fun L244=>StoreRefuses.j3 ((L244.length:Int) == 0) else StoreRefuses.j3 false) else StoreRefuses.j3 false)) else StoreRefuses.j3 false) else StoreRefuses.j3 false) else StoreRefuses.j3 false) else StoreRefuses.j3 false))
def StoreRefuses.j1 (i1:Int) (i2:Int) (k:Nat) (x13:Int) (y27:Bool):Option (Bool):=bind1 (play_Wide.m k ) fun q35=>bind5 (store_New.m k (⟨q35.spans,q35.start,q35.assist⟩:Cf)) fun s42 x43 x44 x45 x46=>(if (x46 != 0) then StoreRefuses.j2 i1 i2 k x13 y27 s42 x43 x44 x45 true else StoreRefuses.j2 i1 i2 k x13 y27 s42 x43 x44 x45 false)
def StoreRefuses.m (k:Nat) (i0:Cf) (i1:Int) (i2:Int):Option (Bool):=bind5 (store_New.m k (⟨i0.spans,i0.start,i0.assist⟩:Cf)) fun s9 x10 x11 x12 x13=>(if (decide (i0.start ≥ 1)) then (if (decide (i0.start≤100)) then (if (decide (i0.assist ≥ 0)) then (if (decide (i0.assist≤8)) then (if (decide (i0.spans ≥ 2)) then StoreRefuses.j1 i1 i2 k x13 (decide (i0.spans≤128)) else StoreRefuses.j1 i1 i2 k x13 false) else StoreRefuses.j1 i1 i2 k x13 false) else StoreRefuses.j1 i1 i2 k x13 false) else StoreRefuses.j1 i1 i2 k x13 false) else StoreRefuses.j1 i1 i2 k x13 false)
set_option maxRecDepth 100000 in
set_option maxHeartbeats 40000000 in
theorem StoreRefuses.ok {w0 w:World} {F0:List Nat} {ps:List Piece} {k:Nat} {i0:Cf} {i1:Int} {i2:Int} {r0:Bool} (hS:St w0 F0 (ps) w) (hm:StoreRefuses.m k i0 i1 i2=some r0) :
    Calls Try.prog 5 #[.agg #[nI (i0.spans),nI (i0.start),nI (i0.assist)],nI i1,nI i2] w fun e w'=>e=.returned (.bool r0)∧St w0 F0 (ps) w':=by
 refine ev_enterL 130 [.agg #[nI (i0.spans),nI (i0.start),nI (i0.assist)],nI i1,nI i2] Try.func5 rfl rfl (by simp) ?_
 intro a hF
 have hF0:Fr 130 a [(0,.agg #[nI (i0.spans),nI (i0.start),nI (i0.assist)]),(1,nI i1),(2,nI i2)]:=hF; clear hF
 unfold StoreRefuses.m at hm
 refine wp_seq (wp_region_lit ?_)
 refine ev_runs 1 hF0 (l':=[(3,nB w),(0,.agg #[nI (i0.spans),nI (i0.start),nI (i0.assist)]),(1,nI i1),(2,nI i2)]) (w':=w.alloc (.cells #[nI (i0.spans),nI (i0.start),nI (i0.assist)] 23)) (by kernel_rfl) ?_
 intro a2 hF1; clear hF0
 have hS4:St w0 F0 (BlkP (w.heap.size) 23 #[nI (i0.spans),nI (i0.start),nI (i0.assist)]::ps) (w.alloc (.cells #[nI (i0.spans),nI (i0.start),nI (i0.assist)] 23)):=St.new hS #[nI (i0.spans),nI (i0.start),nI (i0.assist)] 23
 refine ev_runK 1 hF1 [1,2,3] (l':=[(3,nB w),(1,nI i1),(2,nI i2)]) (w':=w.alloc (.cells #[nI (i0.spans),nI (i0.start),nI (i0.assist)] 23)) (by kernel_rfl) ?_
 intro a6 hF5; clear hF1
 refine wpList_nil (thenN (wp_seq (wp_region_lit ?_)))
 refine ev_one (.agg #[nI (i0.spans),nI (i0.start),nI (i0.assist)]) (w.alloc (.cells #[nI (i0.spans),nI (i0.start),nI (i0.assist)] 23)) hF5 (by kernel_rfl) rfl (by kernel_rfl) (run_loadV rfl rfl (run_loadA (cs:=[nI (i0.spans),nI (i0.start),nI (i0.assist)]) rfl rfl (by kernel_rfl) (blk_cells hS4 0 rfl rfl))) (l':=[(22,.agg #[nI (i0.spans),nI (i0.start),nI (i0.assist)]),(3,nB w),(1,nI i1),(2,nI i2)]) (by kernel_rfl) ?_
 intro a8 hF7; clear hF5
 refine ev_call 10 #[.agg #[nI (i0.spans),nI (i0.start),nI (i0.assist)]] hF7 rfl rfl (by kernel_rfl) rfl (by kernel_rfl) (fun w=>by kernel_rfl) ?_
 obtain ⟨s9,x10,x11,x12,x13,hx14,hm15⟩:=bind5E hm; clear hm
 refine (store_New.ok hS4 hx14).mono ?_
 rintro _ w16 ⟨z20,z21,z22,rfl,hS18⟩ a17 hF19; clear hF7 hS4
 refine ev_runK 5 hF19 [1,2,3,7,8] (l':=[(8,nI x13),(7,nP z20 0),(3,nB w),(1,nI i1),(2,nI i2)]) (w':=w16) (by kernel_rfl) ?_
 intro a26 hF25; clear hF19
 refine wpList_nil (thenN (wp_seq ?_))
 refine joinQ (fun aI wI=>∃ (y27:Bool),Fr 130 aI [(9,.bool (y27)),(8,nI x13),(7,nP z20 0),(1,nI i1),(2,nI i2)]∧St w0 F0 (BlkP z20 69 #[nP z21 0,nI x10,nI x11,nI x12]::HeapP z21 z22 s9::ps) wI∧StoreRefuses.j1 i1 i2 k x13 y27=some r0) ?_ ?_
 rotate_left
 · rintro a29 w30 ⟨y27,hF31,hS32,hm33⟩
   clear hF25 hS18 hm15
   unfold StoreRefuses.j1 at hm33
   refine thenN (wp_seq (wp_region_lit ?_))
   refine ev_call 23 #[] hF31 rfl rfl (by kernel_rfl) rfl (by kernel_rfl) (fun w=>by kernel_rfl) ?_
   obtain ⟨q35,hx36,hm37⟩:=bind1E hm33; clear hm33
   refine (play_Wide.ok hS32 hx36).mono ?_
   rintro _ w38 ⟨rfl,hS40⟩ a39 hF41; clear hF31 hS32
   refine ev_call 10 #[.agg #[nI (q35.spans),nI (q35.start),nI (q35.assist)]] hF41 rfl rfl (by kernel_rfl) rfl (by kernel_rfl) (fun w=>by kernel_rfl) ?_
   obtain ⟨s42,x43,x44,x45,x46,hx47,hm48⟩:=bind5E hm37; clear hm37
   refine (store_New.ok hS40 hx47).mono ?_
   rintro _ w49 ⟨z53,z54,z55,rfl,hS51⟩ a50 hF52; clear hF41 hS40
   refine ev_runK 5 hF52 [1,2,7,8,9,10,11] (l':=[(11,nI x46),(10,nP z53 0),(9,.bool (y27)),(8,nI x13),(7,nP z20 0),(1,nI i1),(2,nI i2)]) (w':=w49) (by kernel_rfl) ?_
   intro a59 hF58; clear hF52
   refine wpList_nil (thenN (wp_seq (wp_seq ?_)))
   refine joinQ (fun aI wI=>∃ (y60:Bool),Fr 130 aI [(64,.bool (y60)),(10,nP z53 0),(9,.bool (y27)),(8,nI x13),(7,nP z20 0),(1,nI i1),(2,nI i2)]∧St w0 F0 (BlkP z53 69 #[nP z54 0,nI x43,nI x44,nI x45]::HeapP z54 z55 s42::BlkP z20 69 #[nP z21 0,nI x10,nI x11,nI x12]::HeapP z21 z22 s9::ps) wI∧StoreRefuses.j2 i1 i2 k x13 y27 s42 x43 x44 x45 y60=some r0) ?_ ?_
   rotate_left
   · rintro a62 w63 ⟨y60,hF64,hS65,hm66⟩
     clear hF58 hS51 hm48
     unfold StoreRefuses.j2 at hm66
     refine thenN ?_
     cases hc68:(y60)
     case true =>
      rw [hc68] at hF64
      have hm69:=ifYes hc68 hm66; clear hm66
      refine ev_condT hF64 rfl rfl ?_
      refine wp_seq (wp_region_lit ?_)
      refine ev_runK 1 hF64 [6] (l':=[(6,.bool false)]) (w':=w63) (by kernel_rfl) ?_
      intro a71 hF70; clear hF64
      refine wpList_nil ?_
      have hS72:=hS65.drop.drop.drop.drop
      clear hS65
      refine thenN ?_
      refine wp_ret ?_
      refine thenR ?_
      obtain rfl:=Option.some.inj hm69
      refine ev_ret hF70 [6] (.bool false) rfl rfl rfl ?_
      exact ⟨rfl,hS72⟩
     rw [hc68] at hF64
     have hm74:=ifNot hc68 hm66; clear hm66
     refine ev_condF hF64 rfl rfl ?_
     refine wp_skip ?_
     have hF75:=hF64.keep [1,2,7,8,9,10]
     clear hF64
     refine thenN (wp_seq (wp_region_lit ?_))
     refine ev_runs 6 hF75 (l':=[(71,.slice (some ⟨w63.heap.size,0,none⟩) 2 2),(70,.agg #[nI i1,nI i2]),(69,nI i2),(68,nI i1),(67,.agg #[nI 5,nI 0]),(66,nP z53 0),(10,nP z53 0),(9,.bool (y27)),(8,nI x13),(7,nP z20 0),(1,nI i1),(2,nI i2)]) (w':=w63.alloc (.cells #[nI 5,nI 0,nI i1,nI i2] 43)) (by kernel_rfl) ?_
     intro a78 hF77; clear hF75
     have hS79:St w0 F0 (RowX kNd (.slice (some ⟨w63.heap.size,0,none⟩) 2 2) [(⟨5,0⟩:Nd),(⟨i1,i2⟩:Nd)]::BlkP z53 69 #[nP z54 0,nI x43,nI x44,nI x45]::HeapP z54 z55 s42::BlkP z20 69 #[nP z21 0,nI x10,nI x11,nI x12]::HeapP z21 z22 s9::ps) (w63.alloc (.cells #[nI 5,nI 0,nI i1,nI i2] 43)):=St.litX kNd hS65 [(⟨5,0⟩:Nd),(⟨i1,i2⟩:Nd)] (by unfold maxLen; simp)
     clear hS65
     have hS81:St w0 F0 (RowP (.slice none 0 0) []::RowX kNd (.slice (some ⟨w63.heap.size,0,none⟩) 2 2) [(⟨5,0⟩:Nd),(⟨i1,i2⟩:Nd)]::BlkP z53 69 #[nP z54 0,nI x43,nI x44,nI x45]::HeapP z54 z55 s42::BlkP z20 69 #[nP z21 0,nI x10,nI x11,nI x12]::HeapP z21 z22 s9::ps) (w63.alloc (.cells #[nI 5,nI 0,nI i1,nI i2] 43)):=St.nil hS79
     clear hS79
     have hS82:=hS81.pick1.pick3.pick3
     clear hS81
     refine ev_call 16 #[nP z53 0,.slice (some ⟨w63.heap.size,0,none⟩) 2 2,.slice none 0 0] hF77 rfl rfl (by kernel_rfl) rfl (by kernel_rfl) (fun w=>by kernel_rfl) ?_
     obtain ⟨L83,L84,x85,s86,hx87,hm88⟩:=bind4E hm74; clear hm74
     refine (store_Alloc.ok hS82 hx87).mono ?_
     rintro _ w89 ⟨z93,z94,rfl,hS91⟩ a90 hF92; clear hF77 hS82
     obtain ⟨hl100,p97,c98,rfl,hp99⟩:=St.shape hS91 4 rfl
     obtain ⟨hl104,p101,c102,rfl,hp103⟩:=St.shapeG (k:=5) hS91 rfl
     refine ev_runK 7 hF92 [1,2,7,8,9,14] (l':=[(14,nI x85),(9,.bool (y27)),(8,nI x13),(7,nP z20 0),(1,nI i1),(2,nI i2)]) (w':=w89) (by kernel_rfl) ?_
     intro a106 hF105; clear hF92
     refine wpList_nil ?_
     have hS107:=hS91.drop.drop.drop.drop.drop.drop
     clear hS91
     refine thenN (wp_seq (wp_region_lit ?_))
     refine ev_runs 2 hF105 (l':=[(78,nI i2),(77,nI i1),(14,nI x85),(9,.bool (y27)),(8,nI x13),(7,nP z20 0),(1,nI i1),(2,nI i2)]) (w':=w89) (by kernel_rfl) ?_
     intro a109 hF108; clear hF105
     refine ev_call 13 #[nI i1,nI i2] hF108 rfl rfl (by kernel_rfl) rfl (by kernel_rfl) (fun w=>by kernel_rfl) ?_
     refine (q_Need hS107).mono ?_
     rintro _ w110 ⟨rfl,hS112⟩ a111 hF113; clear hF108 hS107
     refine ev_runK 5 hF113 [7,8,9,14,16] (l':=[(16,.bool (rKnown i1 i2)),(14,nI x85),(9,.bool (y27)),(8,nI x13),(7,nP z20 0)]) (w':=w110) (by kernel_rfl) ?_
     intro a115 hF114; clear hF113
     refine wpList_nil (thenN (wp_seq (wp_region_lit ?_)))
     refine ev_runs 1 hF114 (l':=[(17,.pointer none),(16,.bool (rKnown i1 i2)),(14,nI x85),(9,.bool (y27)),(8,nI x13),(7,nP z20 0)]) (w':=w110) (by kernel_rfl) ?_
     intro a117 hF116; clear hF114
     refine wpList_nil (thenN (wp_seq (wp_region_lit ?_)))
     refine ev_runs 1 hF116 (l':=[(83,.pointer none),(17,.pointer none),(16,.bool (rKnown i1 i2)),(14,nI x85),(9,.bool (y27)),(8,nI x13),(7,nP z20 0)]) (w':=w110) (by kernel_rfl) ?_
     intro a119 hF118; clear hF116
     have hS121:St w0 F0 (RowX kNd (.slice none 0 0) []::BlkP z20 69 #[nP z21 0,nI x10,nI x11,nI x12]::HeapP z21 z22 s9::ps) w110:=St.nilX kNd hS112
     clear hS112
     have hS123:St w0 F0 (RowP (.slice none 0 0) []::RowX kNd (.slice none 0 0) []::BlkP z20 69 #[nP z21 0,nI x10,nI x11,nI x12]::HeapP z21 z22 s9::ps) w110:=St.nil hS121
     clear hS121
     have hS124:=hS123.pick1
     clear hS123
     refine ev_call 16 #[.pointer none,.slice none 0 0,.slice none 0 0] hF118 rfl rfl (by kernel_rfl) rfl (by kernel_rfl) (fun w=>by kernel_rfl) ?_
     obtain ⟨L125,L126,x127,hx128,hm129⟩:=bind3E hm88; clear hm88
     refine (store_AllocN.ok hS124 hx128).mono ?_
     rintro _ w130 ⟨z134,z135,rfl,hS132⟩ a131 hF133; clear hF118 hS124
     obtain ⟨hl141,p138,c139,rfl,hp140⟩:=St.shape hS132 2 rfl
     obtain ⟨hl145,p142,c143,rfl,hp144⟩:=St.shapeG (k:=3) hS132 rfl
     refine ev_runK 7 hF133 [7,8,9,14,16,17,20] (l':=[(20,nI x127),(17,.pointer none),(16,.bool (rKnown i1 i2)),(14,nI x85),(9,.bool (y27)),(8,nI x13),(7,nP z20 0)]) (w':=w130) (by kernel_rfl) ?_
     intro a147 hF146; clear hF133
     refine wpList_nil ?_
     have hS148:=hS132.drop.drop.drop.drop
     clear hS132
     refine thenN (wp_seq ?_)
     refine joinQ (fun aI wI=>∃ (y149:Bool),Fr 130 aI [(6,.bool (y149))]∧St w0 F0 (ps) wI∧StoreRefuses.j3 y149=some r0) ?_ ?_
     rotate_left
     · rintro a151 w152 ⟨y149,hF153,hS154,hm155⟩
       clear hF146 hS148 hm129
       unfold StoreRefuses.j3 at hm155
       refine thenN ?_
       refine wp_ret ?_
       obtain rfl:=Option.some.inj hm155
       refine ev_ret hF153 [6] (.bool (y149)) rfl rfl rfl ?_
       exact ⟨rfl,hS154⟩
     · skip
       refine wp_region_lit ?_
       refine ev_call 11 #[] hF146 rfl rfl (by kernel_rfl) rfl (by kernel_rfl) (fun w=>by kernel_rfl) ?_
       obtain ⟨y158,hx159,hm160⟩:=bind1E hm129; clear hm129
       refine (law21_awake.ok hS148 hx159).mono ?_
       rintro _ w161 ⟨rfl,hS163⟩ a162 hF164; clear hF146 hS148
       refine ev_runs 1 hF164 (l':=[(89,.bool (y158)),(88,.bool (y158)),(20,nI x127),(17,.pointer none),(16,.bool (rKnown i1 i2)),(14,nI x85),(9,.bool (y27)),(8,nI x13),(7,nP z20 0)]) (w':=w161) (by kernel_rfl) ?_
       intro a166 hF165; clear hF164
       cases hc167:(y158)
       case true =>
        rw [hc167] at hF165
        have hm168:=ifYes hc167 hm160; clear hm160
        refine ev_runs 6 hF165 (l':=[(95,.bool ((x13 == 0) == (y27))),(94,.bool ((x13 == 0) == (y27))),(93,.bool ((x13 == 0) == (y27))),(92,.bool (y27)),(91,.bool (x13 == 0)),(90,nI x13),(89,.bool true),(88,.bool true),(20,nI x127),(17,.pointer none),(16,.bool (rKnown i1 i2)),(14,nI x85),(9,.bool (y27)),(8,nI x13),(7,nP z20 0)]) (w':=w161) (by kernel_rfl) ?_
        intro a170 hF169; clear hF165
        cases hc171:((x13 == 0) == (y27))
        case true =>
         rw [hc171] at hF169
         have hm172:=ifYes hc171 hm168; clear hm168
         refine ev_runs 6 hF169 (l':=[(101,.bool ((true) == (y27))),(100,.bool ((true) == (y27))),(99,.bool ((true) == (y27))),(98,.bool (y27)),(97,.bool true),(96,nP z20 0),(95,.bool true),(94,.bool true),(93,.bool true),(92,.bool (y27)),(91,.bool (x13 == 0)),(90,nI x13),(89,.bool true),(88,.bool true),(20,nI x127),(17,.pointer none),(16,.bool (rKnown i1 i2)),(14,nI x85),(9,.bool (y27)),(8,nI x13),(7,nP z20 0)]) (w':=w161) (by kernel_rfl) ?_
         intro a174 hF173; clear hF169
         cases hc175:((true) == (y27))
         case true =>
          rw [hc175] at hF173
          have hm176:=ifYes hc175 hm172; clear hm172
          refine ev_runs 6 hF173 (l':=[(107,.bool ((x85 == 0) == (rKnown i1 i2))),(106,.bool ((x85 == 0) == (rKnown i1 i2))),(105,.bool ((x85 == 0) == (rKnown i1 i2))),(104,.bool (rKnown i1 i2)),(103,.bool (x85 == 0)),(102,nI x85),(101,.bool true),(100,.bool true),(99,.bool true),(98,.bool (y27)),(97,.bool true),(96,nP z20 0),(95,.bool true),(94,.bool true),(93,.bool true),(92,.bool (y27)),(91,.bool (x13 == 0)),(90,nI x13),(89,.bool true),(88,.bool true),(20,nI x127),(17,.pointer none),(16,.bool (rKnown i1 i2)),(14,nI x85),(9,.bool (y27)),(8,nI x13),(7,nP z20 0)]) (w':=w161) (by kernel_rfl) ?_
          intro a178 hF177; clear hF173
          cases hc179:((x85 == 0) == (rKnown i1 i2))
          case true =>
           rw [hc179] at hF177
           have hm180:=ifYes hc179 hm176; clear hm176
           refine ev_runs 3 hF177 (l':=[(110,.bool (x85 == 0)),(109,.bool (x85 == 0)),(108,nI x85),(107,.bool true),(106,.bool true),(105,.bool true),(104,.bool (rKnown i1 i2)),(103,.bool (x85 == 0)),(102,nI x85),(101,.bool true),(100,.bool true),(99,.bool true),(98,.bool (y27)),(97,.bool true),(96,nP z20 0),(95,.bool true),(94,.bool true),(93,.bool true),(92,.bool (y27)),(91,.bool (x13 == 0)),(90,nI x13),(89,.bool true),(88,.bool true),(20,nI x127),(17,.pointer none),(16,.bool (rKnown i1 i2)),(14,nI x85),(9,.bool (y27)),(8,nI x13),(7,nP z20 0)]) (w':=w161) (by kernel_rfl) ?_
           intro a182 hF181; clear hF177
           cases hc183:(x85 == 0)
           case true =>
            rw [hc183] at hF181
            have hm184:=ifYes hc183 hm180; clear hm180
            refine ev_runs 9 hF181 (l':=[(119,.bool (x127 == 2)),(118,.bool (x127 == 2)),(117,.bool (x127 == 2)),(116,nI x127),(115,.bool true),(114,.bool true),(113,.bool true),(112,.tuple #[]),(111,.tuple #[]),(110,.bool true),(109,.bool true),(108,nI x85),(107,.bool true),(106,.bool true),(105,.bool true),(104,.bool (rKnown i1 i2)),(103,.bool true),(102,nI x85),(101,.bool true),(100,.bool true),(99,.bool true),(98,.bool (y27)),(97,.bool true),(96,nP z20 0),(95,.bool true),(94,.bool true),(93,.bool true),(92,.bool (y27)),(91,.bool (x13 == 0)),(90,nI x13),(89,.bool true),(88,.bool true),(20,nI x127),(17,.pointer none),(16,.bool (rKnown i1 i2)),(14,nI x85),(9,.bool (y27)),(8,nI x13),(7,nP z20 0)]) (w':=w161) (by kernel_rfl) ?_
            intro a186 hF185; clear hF181
            cases hc187:(x127 == 2)
            case true =>
             rw [hc187] at hF185
             have hm188:=ifYes hc187 hm184; clear hm184
             refine ev_runs 1 hF185 (l':=[(120,.pointer none),(119,.bool true),(118,.bool true),(117,.bool true),(116,nI x127),(115,.bool true),(114,.bool true),(113,.bool true),(112,.tuple #[]),(111,.tuple #[]),(110,.bool true),(109,.bool true),(108,nI x85),(107,.bool true),(106,.bool true),(105,.bool true),(104,.bool (rKnown i1 i2)),(103,.bool true),(102,nI x85),(101,.bool true),(100,.bool true),(99,.bool true),(98,.bool (y27)),(97,.bool true),(96,nP z20 0),(95,.bool true),(94,.bool true),(93,.bool true),(92,.bool (y27)),(91,.bool (x13 == 0)),(90,nI x13),(89,.bool true),(88,.bool true),(20,nI x127),(17,.pointer none),(16,.bool (rKnown i1 i2)),(14,nI x85),(9,.bool (y27)),(8,nI x13),(7,nP z20 0)]) (w':=w161) (by kernel_rfl) ?_
             intro a190 hF189; clear hF185
             refine ev_call 12 #[.pointer none] hF189 rfl rfl (by kernel_rfl) rfl (by kernel_rfl) (fun w=>by kernel_rfl) ?_
             obtain ⟨u191,hx192,hm193⟩:=bind1E hm188; clear hm188
             refine (store_HeapN.ok hS163 hx192).mono ?_
             rintro _ w194 ⟨rfl,hS196⟩ a195 hF197; clear hF189 hS163
             refine ev_runs 4 hF197 (l':=[(125,.pointer none),(124,.bool true),(123,.bool true),(122,.bool true),(121,.pointer none),(120,.pointer none),(119,.bool true),(118,.bool true),(117,.bool true),(116,nI x127),(115,.bool true),(114,.bool true),(113,.bool true),(112,.tuple #[]),(111,.tuple #[]),(110,.bool true),(109,.bool true),(108,nI x85),(107,.bool true),(106,.bool true),(105,.bool true),(104,.bool (rKnown i1 i2)),(103,.bool true),(102,nI x85),(101,.bool true),(100,.bool true),(99,.bool true),(98,.bool (y27)),(97,.bool true),(96,nP z20 0),(95,.bool true),(94,.bool true),(93,.bool true),(92,.bool (y27)),(91,.bool (x13 == 0)),(90,nI x13),(89,.bool true),(88,.bool true),(20,nI x127),(17,.pointer none),(16,.bool (rKnown i1 i2)),(14,nI x85),(9,.bool (y27)),(8,nI x13),(7,nP z20 0)]) (w':=w194) (by kernel_rfl) ?_
             intro a199 hF198; clear hF197
             have hS201:St w0 F0 (RowP (.slice none 0 0) []::BlkP z20 69 #[nP z21 0,nI x10,nI x11,nI x12]::HeapP z21 z22 s9::ps) w194:=St.nil hS196
             clear hS196
             refine ev_call 24 #[.pointer none,.slice none 0 0] hF198 rfl rfl (by kernel_rfl) rfl (by kernel_rfl) (fun w=>by kernel_rfl) ?_
             obtain ⟨L202,hx203,hm204⟩:=bind1E hm193; clear hm193
             refine (store_CollectN.ok hS201 hx203).mono ?_
             rintro _ w205 ⟨z209,rfl,hS207⟩ a206 hF208; clear hF198 hS201
             obtain ⟨hl214,p211,c212,rfl,hp213⟩:=St.shapeG (k:=1) hS207 rfl
             refine ev_runK 4 hF208 [6] (l':=[(6,.bool ((L202.length:Int) == 0))]) (w':=w205) (by kernel_rfl) ?_
             intro a216 hF215; clear hF208
             refine wpList_nil ?_
             have hS217:=hS207.drop.drop.drop.drop
             clear hS207
             exact thenN ⟨(L202.length:Int) == 0,hF215,hS217,hm204⟩
            rw [hc187] at hF185
            have hm218:=ifNot hc187 hm184; clear hm184
            refine ev_runK 11 hF185 [6] (l':=[(6,.bool false)]) (w':=w161) (by kernel_rfl) ?_
            intro a220 hF219; clear hF185
            refine wpList_nil ?_
            have hS221:=hS163.drop.drop
            clear hS163
            exact thenN ⟨false,hF219,hS221,hm218⟩
           rw [hc183] at hF181
           have hm222:=ifNot hc183 hm180; clear hm180
           refine ev_runs 5 hF181 (l':=[(115,.bool (x85 == 1)),(114,.bool (x85 == 1)),(113,.bool (x85 == 1)),(112,.bool (x85 == 1)),(111,nI x85),(110,.bool false),(109,.bool false),(108,nI x85),(107,.bool true),(106,.bool true),(105,.bool true),(104,.bool (rKnown i1 i2)),(103,.bool false),(102,nI x85),(101,.bool true),(100,.bool true),(99,.bool true),(98,.bool (y27)),(97,.bool true),(96,nP z20 0),(95,.bool true),(94,.bool true),(93,.bool true),(92,.bool (y27)),(91,.bool (x13 == 0)),(90,nI x13),(89,.bool true),(88,.bool true),(20,nI x127),(17,.pointer none),(16,.bool (rKnown i1 i2)),(14,nI x85),(9,.bool (y27)),(8,nI x13),(7,nP z20 0)]) (w':=w161) (by kernel_rfl) ?_
           intro a224 hF223; clear hF181
           cases hc225:(x85 == 1)
           case true =>
            rw [hc225] at hF223
            have hm226:=ifYes hc225 hm222; clear hm222
            refine ev_runs 4 hF223 (l':=[(119,.bool (x127 == 2)),(118,.bool (x127 == 2)),(117,.bool (x127 == 2)),(116,nI x127),(115,.bool true),(114,.bool true),(113,.bool true),(112,.bool true),(111,nI x85),(110,.bool false),(109,.bool false),(108,nI x85),(107,.bool true),(106,.bool true),(105,.bool true),(104,.bool (rKnown i1 i2)),(103,.bool false),(102,nI x85),(101,.bool true),(100,.bool true),(99,.bool true),(98,.bool (y27)),(97,.bool true),(96,nP z20 0),(95,.bool true),(94,.bool true),(93,.bool true),(92,.bool (y27)),(91,.bool (x13 == 0)),(90,nI x13),(89,.bool true),(88,.bool true),(20,nI x127),(17,.pointer none),(16,.bool (rKnown i1 i2)),(14,nI x85),(9,.bool (y27)),(8,nI x13),(7,nP z20 0)]) (w':=w161) (by kernel_rfl) ?_
            intro a228 hF227; clear hF223
            cases hc229:(x127 == 2)
            case true =>
             rw [hc229] at hF227
             have hm230:=ifYes hc229 hm226; clear hm226
             refine ev_runs 1 hF227 (l':=[(120,.pointer none),(119,.bool true),(118,.bool true),(117,.bool true),(116,nI x127),(115,.bool true),(114,.bool true),(113,.bool true),(112,.bool true),(111,nI x85),(110,.bool false),(109,.bool false),(108,nI x85),(107,.bool true),(106,.bool true),(105,.bool true),(104,.bool (rKnown i1 i2)),(103,.bool false),(102,nI x85),(101,.bool true),(100,.bool true),(99,.bool true),(98,.bool (y27)),(97,.bool true),(96,nP z20 0),(95,.bool true),(94,.bool true),(93,.bool true),(92,.bool (y27)),(91,.bool (x13 == 0)),(90,nI x13),(89,.bool true),(88,.bool true),(20,nI x127),(17,.pointer none),(16,.bool (rKnown i1 i2)),(14,nI x85),(9,.bool (y27)),(8,nI x13),(7,nP z20 0)]) (w':=w161) (by kernel_rfl) ?_
             intro a232 hF231; clear hF227
             refine ev_call 12 #[.pointer none] hF231 rfl rfl (by kernel_rfl) rfl (by kernel_rfl) (fun w=>by kernel_rfl) ?_
             obtain ⟨u233,hx234,hm235⟩:=bind1E hm230; clear hm230
             refine (store_HeapN.ok hS163 hx234).mono ?_
             rintro _ w236 ⟨rfl,hS238⟩ a237 hF239; clear hF231 hS163
             refine ev_runs 4 hF239 (l':=[(125,.pointer none),(124,.bool true),(123,.bool true),(122,.bool true),(121,.pointer none),(120,.pointer none),(119,.bool true),(118,.bool true),(117,.bool true),(116,nI x127),(115,.bool true),(114,.bool true),(113,.bool true),(112,.bool true),(111,nI x85),(110,.bool false),(109,.bool false),(108,nI x85),(107,.bool true),(106,.bool true),(105,.bool true),(104,.bool (rKnown i1 i2)),(103,.bool false),(102,nI x85),(101,.bool true),(100,.bool true),(99,.bool true),(98,.bool (y27)),(97,.bool true),(96,nP z20 0),(95,.bool true),(94,.bool true),(93,.bool true),(92,.bool (y27)),(91,.bool (x13 == 0)),(90,nI x13),(89,.bool true),(88,.bool true),(20,nI x127),(17,.pointer none),(16,.bool (rKnown i1 i2)),(14,nI x85),(9,.bool (y27)),(8,nI x13),(7,nP z20 0)]) (w':=w236) (by kernel_rfl) ?_
             intro a241 hF240; clear hF239
             have hS243:St w0 F0 (RowP (.slice none 0 0) []::BlkP z20 69 #[nP z21 0,nI x10,nI x11,nI x12]::HeapP z21 z22 s9::ps) w236:=St.nil hS238
             clear hS238
             refine ev_call 24 #[.pointer none,.slice none 0 0] hF240 rfl rfl (by kernel_rfl) rfl (by kernel_rfl) (fun w=>by kernel_rfl) ?_
             obtain ⟨L244,hx245,hm246⟩:=bind1E hm235; clear hm235
             refine (store_CollectN.ok hS243 hx245).mono ?_
             rintro _ w247 ⟨z251,rfl,hS249⟩ a248 hF250; clear hF240 hS243
             obtain ⟨hl256,p253,c254,rfl,hp255⟩:=St.shapeG (k:=1) hS249 rfl
             refine ev_runK 4 hF250 [6] (l':=[(6,.bool ((L244.length:Int) == 0))]) (w':=w247) (by kernel_rfl) ?_
             intro a258 hF257; clear hF250
             refine wpList_nil ?_
             have hS259:=hS249.drop.drop.drop.drop
             clear hS249
             exact thenN ⟨(L244.length:Int) == 0,hF257,hS259,hm246⟩
            rw [hc229] at hF227
            have hm260:=ifNot hc229 hm226; clear hm226
            refine ev_runK 11 hF227 [6] (l':=[(6,.bool false)]) (w':=w161) (by kernel_rfl) ?_
            intro a262 hF261; clear hF227
            refine wpList_nil ?_
            have hS263:=hS163.drop.drop
            clear hS163
            exact thenN ⟨false,hF261,hS263,hm260⟩
           rw [hc225] at hF223
           have hm264:=ifNot hc225 hm222; clear hm222
           refine ev_runK 15 hF223 [6] (l':=[(6,.bool false)]) (w':=w161) (by kernel_rfl) ?_
           intro a266 hF265; clear hF223
           refine wpList_nil ?_
           have hS267:=hS163.drop.drop
           clear hS163
           exact thenN ⟨false,hF265,hS267,hm264⟩
          rw [hc179] at hF177
          have hm268:=ifNot hc179 hm176; clear hm176
          refine ev_runK 23 hF177 [6] (l':=[(6,.bool false)]) (w':=w161) (by kernel_rfl) ?_
          intro a270 hF269; clear hF177
          refine wpList_nil ?_
          have hS271:=hS163.drop.drop
          clear hS163
          exact thenN ⟨false,hF269,hS271,hm268⟩
         rw [hc175] at hF173
         have hm272:=ifNot hc175 hm172; clear hm172
         refine ev_runK 29 hF173 [6] (l':=[(6,.bool false)]) (w':=w161) (by kernel_rfl) ?_
         intro a274 hF273; clear hF173
         refine wpList_nil ?_
         have hS275:=hS163.drop.drop
         clear hS163
         exact thenN ⟨false,hF273,hS275,hm272⟩
        rw [hc171] at hF169
        have hm276:=ifNot hc171 hm168; clear hm168
        refine ev_runK 35 hF169 [6] (l':=[(6,.bool false)]) (w':=w161) (by kernel_rfl) ?_
        intro a278 hF277; clear hF169
        refine wpList_nil ?_
        have hS279:=hS163.drop.drop
        clear hS163
        exact thenN ⟨false,hF277,hS279,hm276⟩
       rw [hc167] at hF165
       have hm280:=ifNot hc167 hm160; clear hm160
       refine ev_runK 41 hF165 [6] (l':=[(6,.bool false)]) (w':=w161) (by kernel_rfl) ?_
       intro a282 hF281; clear hF165
       refine wpList_nil ?_
       have hS283:=hS163.drop.drop
       clear hS163
       exact thenN ⟨false,hF281,hS283,hm280⟩
   · skip
     refine wp_region_lit ?_
     refine ev_runs 3 hF58 (l':=[(61,.bool (x46 != 0)),(60,.bool (x46 != 0)),(59,nI x46),(11,nI x46),(10,nP z53 0),(9,.bool (y27)),(8,nI x13),(7,nP z20 0),(1,nI i1),(2,nI i2)]) (w':=w49) (by kernel_rfl) ?_
     intro a285 hF284; clear hF58
     cases hc286:(x46 != 0)
     case true =>
      rw [hc286] at hF284
      have hm287:=ifYes hc286 hm48; clear hm48
      refine ev_runK 3 hF284 [1,2,7,8,9,10,64] (l':=[(64,.bool true),(10,nP z53 0),(9,.bool (y27)),(8,nI x13),(7,nP z20 0),(1,nI i1),(2,nI i2)]) (w':=w49) (by kernel_rfl) ?_
      intro a289 hF288; clear hF284
      refine wpList_nil ?_
      exact thenN ⟨true,hF288,hS51,hm287⟩
     rw [hc286] at hF284
     have hm290:=ifNot hc286 hm48; clear hm48
     refine ev_runK 3 hF284 [1,2,7,8,9,10,64] (l':=[(64,.bool false),(10,nP z53 0),(9,.bool (y27)),(8,nI x13),(7,nP z20 0),(1,nI i1),(2,nI i2)]) (w':=w49) (by kernel_rfl) ?_
     intro a292 hF291; clear hF284
     refine wpList_nil ?_
     exact thenN ⟨false,hF291,hS51,hm290⟩
 · skip
   refine wp_region_lit ?_
   refine ev_runs 1 hF25 (l':=[(26,nP (w.heap.size) 1),(8,nI x13),(7,nP z20 0),(3,nB w),(1,nI i1),(2,nI i2)]) (w':=w16) (by kernel_rfl) ?_
   intro a294 hF293; clear hF25
   refine ev_one (nI (i0.start)) w16 hF293 (by kernel_rfl) rfl (by kernel_rfl) (run_loadV rfl rfl (run_loadS rfl rfl (hS18.cell 2 rfl 1 rfl))) (l':=[(27,nI (i0.start)),(26,nP (w.heap.size) 1),(8,nI x13),(7,nP z20 0),(3,nB w),(1,nI i1),(2,nI i2)]) (by kernel_rfl) ?_
   intro a296 hF295; clear hF293
   refine ev_runs 2 hF295 (l':=[(29,.bool (decide (i0.start ≥ 1))),(28,.bool (decide (i0.start ≥ 1))),(27,nI (i0.start)),(26,nP (w.heap.size) 1),(8,nI x13),(7,nP z20 0),(3,nB w),(1,nI i1),(2,nI i2)]) (w':=w16) (by kernel_rfl) ?_
   intro a298 hF297; clear hF295
   cases hc299:(decide (i0.start ≥ 1))
   case true =>
    rw [hc299] at hF297
    have hm300:=ifYes hc299 hm15; clear hm15
    refine ev_runs 1 hF297 (l':=[(30,nP (w.heap.size) 1),(29,.bool true),(28,.bool true),(27,nI (i0.start)),(26,nP (w.heap.size) 1),(8,nI x13),(7,nP z20 0),(3,nB w),(1,nI i1),(2,nI i2)]) (w':=w16) (by kernel_rfl) ?_
    intro a302 hF301; clear hF297
    refine ev_one (nI (i0.start)) w16 hF301 (by kernel_rfl) rfl (by kernel_rfl) (run_loadV rfl rfl (run_loadS rfl rfl (hS18.cell 2 rfl 1 rfl))) (l':=[(31,nI (i0.start)),(30,nP (w.heap.size) 1),(29,.bool true),(28,.bool true),(27,nI (i0.start)),(26,nP (w.heap.size) 1),(8,nI x13),(7,nP z20 0),(3,nB w),(1,nI i1),(2,nI i2)]) (by kernel_rfl) ?_
    intro a304 hF303; clear hF301
    refine ev_runs 3 hF303 (l':=[(34,.bool (decide (i0.start≤100))),(33,.bool (decide (i0.start≤100))),(32,.bool (decide (i0.start≤100))),(31,nI (i0.start)),(30,nP (w.heap.size) 1),(29,.bool true),(28,.bool true),(27,nI (i0.start)),(26,nP (w.heap.size) 1),(8,nI x13),(7,nP z20 0),(3,nB w),(1,nI i1),(2,nI i2)]) (w':=w16) (by kernel_rfl) ?_
    intro a306 hF305; clear hF303
    cases hc307:(decide (i0.start≤100))
    case true =>
     rw [hc307] at hF305
     have hm308:=ifYes hc307 hm300; clear hm300
     refine ev_runs 1 hF305 (l':=[(35,nP (w.heap.size) 2),(34,.bool true),(33,.bool true),(32,.bool true),(31,nI (i0.start)),(30,nP (w.heap.size) 1),(29,.bool true),(28,.bool true),(27,nI (i0.start)),(26,nP (w.heap.size) 1),(8,nI x13),(7,nP z20 0),(3,nB w),(1,nI i1),(2,nI i2)]) (w':=w16) (by kernel_rfl) ?_
     intro a310 hF309; clear hF305
     refine ev_one (nI (i0.assist)) w16 hF309 (by kernel_rfl) rfl (by kernel_rfl) (run_loadV rfl rfl (run_loadS rfl rfl (hS18.cell 2 rfl 2 rfl))) (l':=[(36,nI (i0.assist)),(35,nP (w.heap.size) 2),(34,.bool true),(33,.bool true),(32,.bool true),(31,nI (i0.start)),(30,nP (w.heap.size) 1),(29,.bool true),(28,.bool true),(27,nI (i0.start)),(26,nP (w.heap.size) 1),(8,nI x13),(7,nP z20 0),(3,nB w),(1,nI i1),(2,nI i2)]) (by kernel_rfl) ?_
     intro a312 hF311; clear hF309
     refine ev_runs 3 hF311 (l':=[(39,.bool (decide (i0.assist ≥ 0))),(38,.bool (decide (i0.assist ≥ 0))),(37,.bool (decide (i0.assist ≥ 0))),(36,nI (i0.assist)),(35,nP (w.heap.size) 2),(34,.bool true),(33,.bool true),(32,.bool true),(31,nI (i0.start)),(30,nP (w.heap.size) 1),(29,.bool true),(28,.bool true),(27,nI (i0.start)),(26,nP (w.heap.size) 1),(8,nI x13),(7,nP z20 0),(3,nB w),(1,nI i1),(2,nI i2)]) (w':=w16) (by kernel_rfl) ?_
     intro a314 hF313; clear hF311
     cases hc315:(decide (i0.assist ≥ 0))
     case true =>
      rw [hc315] at hF313
      have hm316:=ifYes hc315 hm308; clear hm308
      refine ev_runs 1 hF313 (l':=[(40,nP (w.heap.size) 2),(39,.bool true),(38,.bool true),(37,.bool true),(36,nI (i0.assist)),(35,nP (w.heap.size) 2),(34,.bool true),(33,.bool true),(32,.bool true),(31,nI (i0.start)),(30,nP (w.heap.size) 1),(29,.bool true),(28,.bool true),(27,nI (i0.start)),(26,nP (w.heap.size) 1),(8,nI x13),(7,nP z20 0),(3,nB w),(1,nI i1),(2,nI i2)]) (w':=w16) (by kernel_rfl) ?_
      intro a318 hF317; clear hF313
      refine ev_one (nI (i0.assist)) w16 hF317 (by kernel_rfl) rfl (by kernel_rfl) (run_loadV rfl rfl (run_loadS rfl rfl (hS18.cell 2 rfl 2 rfl))) (l':=[(41,nI (i0.assist)),(40,nP (w.heap.size) 2),(39,.bool true),(38,.bool true),(37,.bool true),(36,nI (i0.assist)),(35,nP (w.heap.size) 2),(34,.bool true),(33,.bool true),(32,.bool true),(31,nI (i0.start)),(30,nP (w.heap.size) 1),(29,.bool true),(28,.bool true),(27,nI (i0.start)),(26,nP (w.heap.size) 1),(8,nI x13),(7,nP z20 0),(3,nB w),(1,nI i1),(2,nI i2)]) (by kernel_rfl) ?_
      intro a320 hF319; clear hF317
      refine ev_runs 3 hF319 (l':=[(44,.bool (decide (i0.assist≤8))),(43,.bool (decide (i0.assist≤8))),(42,.bool (decide (i0.assist≤8))),(41,nI (i0.assist)),(40,nP (w.heap.size) 2),(39,.bool true),(38,.bool true),(37,.bool true),(36,nI (i0.assist)),(35,nP (w.heap.size) 2),(34,.bool true),(33,.bool true),(32,.bool true),(31,nI (i0.start)),(30,nP (w.heap.size) 1),(29,.bool true),(28,.bool true),(27,nI (i0.start)),(26,nP (w.heap.size) 1),(8,nI x13),(7,nP z20 0),(3,nB w),(1,nI i1),(2,nI i2)]) (w':=w16) (by kernel_rfl) ?_
      intro a322 hF321; clear hF319
      cases hc323:(decide (i0.assist≤8))
      case true =>
       rw [hc323] at hF321
       have hm324:=ifYes hc323 hm316; clear hm316
       refine ev_runs 1 hF321 (l':=[(45,nB w),(44,.bool true),(43,.bool true),(42,.bool true),(41,nI (i0.assist)),(40,nP (w.heap.size) 2),(39,.bool true),(38,.bool true),(37,.bool true),(36,nI (i0.assist)),(35,nP (w.heap.size) 2),(34,.bool true),(33,.bool true),(32,.bool true),(31,nI (i0.start)),(30,nP (w.heap.size) 1),(29,.bool true),(28,.bool true),(27,nI (i0.start)),(26,nP (w.heap.size) 1),(8,nI x13),(7,nP z20 0),(3,nB w),(1,nI i1),(2,nI i2)]) (w':=w16) (by kernel_rfl) ?_
       intro a326 hF325; clear hF321
       refine ev_one (nI (i0.spans)) w16 hF325 (by kernel_rfl) rfl (by kernel_rfl) (run_loadV rfl rfl (run_loadS rfl rfl (hS18.cell 2 rfl 0 rfl))) (l':=[(46,nI (i0.spans)),(45,nB w),(44,.bool true),(43,.bool true),(42,.bool true),(41,nI (i0.assist)),(40,nP (w.heap.size) 2),(39,.bool true),(38,.bool true),(37,.bool true),(36,nI (i0.assist)),(35,nP (w.heap.size) 2),(34,.bool true),(33,.bool true),(32,.bool true),(31,nI (i0.start)),(30,nP (w.heap.size) 1),(29,.bool true),(28,.bool true),(27,nI (i0.start)),(26,nP (w.heap.size) 1),(8,nI x13),(7,nP z20 0),(3,nB w),(1,nI i1),(2,nI i2)]) (by kernel_rfl) ?_
       intro a328 hF327; clear hF325
       refine ev_runs 3 hF327 (l':=[(49,.bool (decide (i0.spans ≥ 2))),(48,.bool (decide (i0.spans ≥ 2))),(47,.bool (decide (i0.spans ≥ 2))),(46,nI (i0.spans)),(45,nB w),(44,.bool true),(43,.bool true),(42,.bool true),(41,nI (i0.assist)),(40,nP (w.heap.size) 2),(39,.bool true),(38,.bool true),(37,.bool true),(36,nI (i0.assist)),(35,nP (w.heap.size) 2),(34,.bool true),(33,.bool true),(32,.bool true),(31,nI (i0.start)),(30,nP (w.heap.size) 1),(29,.bool true),(28,.bool true),(27,nI (i0.start)),(26,nP (w.heap.size) 1),(8,nI x13),(7,nP z20 0),(3,nB w),(1,nI i1),(2,nI i2)]) (w':=w16) (by kernel_rfl) ?_
       intro a330 hF329; clear hF327
       cases hc331:(decide (i0.spans ≥ 2))
       case true =>
        rw [hc331] at hF329
        have hm332:=ifYes hc331 hm324; clear hm324
        refine ev_runs 1 hF329 (l':=[(50,nB w),(49,.bool true),(48,.bool true),(47,.bool true),(46,nI (i0.spans)),(45,nB w),(44,.bool true),(43,.bool true),(42,.bool true),(41,nI (i0.assist)),(40,nP (w.heap.size) 2),(39,.bool true),(38,.bool true),(37,.bool true),(36,nI (i0.assist)),(35,nP (w.heap.size) 2),(34,.bool true),(33,.bool true),(32,.bool true),(31,nI (i0.start)),(30,nP (w.heap.size) 1),(29,.bool true),(28,.bool true),(27,nI (i0.start)),(26,nP (w.heap.size) 1),(8,nI x13),(7,nP z20 0),(3,nB w),(1,nI i1),(2,nI i2)]) (w':=w16) (by kernel_rfl) ?_
        intro a334 hF333; clear hF329
        refine ev_one (nI (i0.spans)) w16 hF333 (by kernel_rfl) rfl (by kernel_rfl) (run_loadV rfl rfl (run_loadS rfl rfl (hS18.cell 2 rfl 0 rfl))) (l':=[(51,nI (i0.spans)),(50,nB w),(49,.bool true),(48,.bool true),(47,.bool true),(46,nI (i0.spans)),(45,nB w),(44,.bool true),(43,.bool true),(42,.bool true),(41,nI (i0.assist)),(40,nP (w.heap.size) 2),(39,.bool true),(38,.bool true),(37,.bool true),(36,nI (i0.assist)),(35,nP (w.heap.size) 2),(34,.bool true),(33,.bool true),(32,.bool true),(31,nI (i0.start)),(30,nP (w.heap.size) 1),(29,.bool true),(28,.bool true),(27,nI (i0.start)),(26,nP (w.heap.size) 1),(8,nI x13),(7,nP z20 0),(3,nB w),(1,nI i1),(2,nI i2)]) (by kernel_rfl) ?_
        intro a336 hF335; clear hF333
        refine ev_runK 3 hF335 [1,2,7,8,9] (l':=[(9,.bool (decide (i0.spans≤128))),(8,nI x13),(7,nP z20 0),(1,nI i1),(2,nI i2)]) (w':=w16) (by kernel_rfl) ?_
        intro a338 hF337; clear hF335
        refine wpList_nil ?_
        have hS339:=hS18.pick2.drop
        clear hS18
        exact thenN ⟨decide (i0.spans≤128),hF337,hS339,hm332⟩
       rw [hc331] at hF329
       have hm340:=ifNot hc331 hm324; clear hm324
       refine ev_runK 5 hF329 [1,2,7,8,9] (l':=[(9,.bool false),(8,nI x13),(7,nP z20 0),(1,nI i1),(2,nI i2)]) (w':=w16) (by kernel_rfl) ?_
       intro a342 hF341; clear hF329
       refine wpList_nil ?_
       have hS343:=hS18.pick2.drop
       clear hS18
       exact thenN ⟨false,hF341,hS343,hm340⟩
      rw [hc323] at hF321
      have hm344:=ifNot hc323 hm316; clear hm316
      refine ev_runK 10 hF321 [1,2,7,8,9] (l':=[(9,.bool false),(8,nI x13),(7,nP z20 0),(1,nI i1),(2,nI i2)]) (w':=w16) (by kernel_rfl) ?_
      intro a346 hF345; clear hF321
      refine wpList_nil ?_
      have hS347:=hS18.pick2.drop
      clear hS18
      exact thenN ⟨false,hF345,hS347,hm344⟩
     rw [hc315] at hF313
     have hm348:=ifNot hc315 hm308; clear hm308
     refine ev_runK 15 hF313 [1,2,7,8,9] (l':=[(9,.bool false),(8,nI x13),(7,nP z20 0),(1,nI i1),(2,nI i2)]) (w':=w16) (by kernel_rfl) ?_
     intro a350 hF349; clear hF313
     refine wpList_nil ?_
     have hS351:=hS18.pick2.drop
     clear hS18
     exact thenN ⟨false,hF349,hS351,hm348⟩
    rw [hc307] at hF305
    have hm352:=ifNot hc307 hm300; clear hm300
    refine ev_runK 20 hF305 [1,2,7,8,9] (l':=[(9,.bool false),(8,nI x13),(7,nP z20 0),(1,nI i1),(2,nI i2)]) (w':=w16) (by kernel_rfl) ?_
    intro a354 hF353; clear hF305
    refine wpList_nil ?_
    have hS355:=hS18.pick2.drop
    clear hS18
    exact thenN ⟨false,hF353,hS355,hm352⟩
   rw [hc299] at hF297
   have hm356:=ifNot hc299 hm15; clear hm15
   refine ev_runK 25 hF297 [1,2,7,8,9] (l':=[(9,.bool false),(8,nI x13),(7,nP z20 0),(1,nI i1),(2,nI i2)]) (w':=w16) (by kernel_rfl) ?_
   intro a358 hF357; clear hF297
   refine wpList_nil ?_
   have hS359:=hS18.pick2.drop
   clear hS18
   exact thenN ⟨false,hF357,hS359,hm356⟩
def StoreRefusesE.j3 (y140:Bool):Option (Bool):=some (y140)
def StoreRefusesE.j2 (i1:Int) (i2:Int) (k:Nat) (x9:Int) (y18:Bool) (s33:HSt) (x34:Int) (x35:Int) (x36:Int) (y51:Bool):Option (Bool):=(if (y51) then some (false) else bind4 (store_Alloc.m k s33 x34 x35 x36 [(⟨5,0⟩:Nd),(⟨i1,i2⟩:Nd)] []) fun L74 L75 x76 s77=>bind3 (store_AllocN.m k [] []) fun L116 L117 x118=>bind1 (law21_awake.m k ) fun y149=>(if (y149) then (if ((x9 == 0) == (y18)) then (if ((false) == (y18)) then (if ((x76 == 0) == (rKnown i1 i2)) then (if (x76 == 0) then (if (x118 == 2) then bind1 (store_HeapN.m k ) fun u182=>bind1 (store_CollectN.m k []) fun L193=>StoreRefusesE.j3 ((L193.length:Int) == 0) else StoreRefusesE.j3 false) else (if (x76 == 1) then (if (x118 == 2) then bind1 (store_HeapN.m k ) fun u223=>bind1 (store_CollectN.m k []) fun L234=>StoreRefusesE.j3 ((L234.length:Int) == 0) else StoreRefusesE.j3 false) else StoreRefusesE.j3 false)) else StoreRefusesE.j3 false) else StoreRefusesE.j3 false) else StoreRefusesE.j3 false) else StoreRefusesE.j3 false))
def StoreRefusesE.j1 (i1:Int) (i2:Int) (k:Nat) (x9:Int) (y18:Bool):Option (Bool):=bind1 (play_Wide.m k ) fun q26=>bind5 (store_New.m k (⟨q26.spans,q26.start,q26.assist⟩:Cf)) fun s33 x34 x35 x36 x37=>(if (x37 != 0) then StoreRefusesE.j2 i1 i2 k x9 y18 s33 x34 x35 x36 true else StoreRefusesE.j2 i1 i2 k x9 y18 s33 x34 x35 x36 false)
def StoreRefusesE.m (k:Nat) (i0:Cf) (i1:Int) (i2:Int):Option (Bool):=bind1 (store_NewE.m k (⟨i0.spans,i0.start,i0.assist⟩:Cf)) fun x9=>(if (decide (i0.start ≥ 1)) then (if (decide (i0.start≤100)) then (if (decide (i0.assist ≥ 0)) then (if (decide (i0.assist≤8)) then (if (decide (i0.spans ≥ 2)) then StoreRefusesE.j1 i1 i2 k x9 (decide (i0.spans≤128)) else StoreRefusesE.j1 i1 i2 k x9 false) else StoreRefusesE.j1 i1 i2 k x9 false) else StoreRefusesE.j1 i1 i2 k x9 false) else StoreRefusesE.j1 i1 i2 k x9 false) else StoreRefusesE.j1 i1 i2 k x9 false)
set_option maxRecDepth 100000 in
set_option maxHeartbeats 40000000 in
theorem StoreRefusesE.ok {w0 w:World} {F0:List Nat} {ps:List Piece} {k:Nat} {i0:Cf} {i1:Int} {i2:Int} {r0:Bool} (hS:St w0 F0 (ps) w) (hm:StoreRefusesE.m k i0 i1 i2=some r0) :
    Calls Try.prog 5 #[.agg #[nI (i0.spans),nI (i0.start),nI (i0.assist)],nI i1,nI i2] w fun e w'=>e=.returned (.bool r0)∧St w0 F0 (ps) w':=by
 refine ev_enterL 130 [.agg #[nI (i0.spans),nI (i0.start),nI (i0.assist)],nI i1,nI i2] Try.func5 rfl rfl (by simp) ?_
 intro a hF
 have hF0:Fr 130 a [(0,.agg #[nI (i0.spans),nI (i0.start),nI (i0.assist)]),(1,nI i1),(2,nI i2)]:=hF; clear hF
 unfold StoreRefusesE.m at hm
 refine wp_seq (wp_region_lit ?_)
 refine ev_runs 1 hF0 (l':=[(3,nB w),(0,.agg #[nI (i0.spans),nI (i0.start),nI (i0.assist)]),(1,nI i1),(2,nI i2)]) (w':=w.alloc (.cells #[nI (i0.spans),nI (i0.start),nI (i0.assist)] 23)) (by kernel_rfl) ?_
 intro a2 hF1; clear hF0
 have hS4:St w0 F0 (BlkP (w.heap.size) 23 #[nI (i0.spans),nI (i0.start),nI (i0.assist)]::ps) (w.alloc (.cells #[nI (i0.spans),nI (i0.start),nI (i0.assist)] 23)):=St.new hS #[nI (i0.spans),nI (i0.start),nI (i0.assist)] 23
 refine ev_runK 1 hF1 [1,2,3] (l':=[(3,nB w),(1,nI i1),(2,nI i2)]) (w':=w.alloc (.cells #[nI (i0.spans),nI (i0.start),nI (i0.assist)] 23)) (by kernel_rfl) ?_
 intro a6 hF5; clear hF1
 refine wpList_nil (thenN (wp_seq (wp_region_lit ?_)))
 refine ev_one (.agg #[nI (i0.spans),nI (i0.start),nI (i0.assist)]) (w.alloc (.cells #[nI (i0.spans),nI (i0.start),nI (i0.assist)] 23)) hF5 (by kernel_rfl) rfl (by kernel_rfl) (run_loadV rfl rfl (run_loadA (cs:=[nI (i0.spans),nI (i0.start),nI (i0.assist)]) rfl rfl (by kernel_rfl) (blk_cells hS4 0 rfl rfl))) (l':=[(22,.agg #[nI (i0.spans),nI (i0.start),nI (i0.assist)]),(3,nB w),(1,nI i1),(2,nI i2)]) (by kernel_rfl) ?_
 intro a8 hF7; clear hF5
 refine ev_call 10 #[.agg #[nI (i0.spans),nI (i0.start),nI (i0.assist)]] hF7 rfl rfl (by kernel_rfl) rfl (by kernel_rfl) (fun w=>by kernel_rfl) ?_
 obtain ⟨x9,hx10,hm11⟩:=bind1E hm; clear hm
 refine (store_NewE.ok hS4 hx10).mono ?_
 rintro _ w12 ⟨rfl,hS14⟩ a13 hF15; clear hF7 hS4
 refine ev_runK 5 hF15 [1,2,3,7,8] (l':=[(8,nI x9),(7,.pointer none),(3,nB w),(1,nI i1),(2,nI i2)]) (w':=w12) (by kernel_rfl) ?_
 intro a17 hF16; clear hF15
 refine wpList_nil (thenN (wp_seq ?_))
 refine joinQ (fun aI wI=>∃ (y18:Bool),Fr 130 aI [(9,.bool (y18)),(8,nI x9),(7,.pointer none),(1,nI i1),(2,nI i2)]∧St w0 F0 (ps) wI∧StoreRefusesE.j1 i1 i2 k x9 y18=some r0) ?_ ?_
 rotate_left
 · rintro a20 w21 ⟨y18,hF22,hS23,hm24⟩
   clear hF16 hS14 hm11
   unfold StoreRefusesE.j1 at hm24
   refine thenN (wp_seq (wp_region_lit ?_))
   refine ev_call 23 #[] hF22 rfl rfl (by kernel_rfl) rfl (by kernel_rfl) (fun w=>by kernel_rfl) ?_
   obtain ⟨q26,hx27,hm28⟩:=bind1E hm24; clear hm24
   refine (play_Wide.ok hS23 hx27).mono ?_
   rintro _ w29 ⟨rfl,hS31⟩ a30 hF32; clear hF22 hS23
   refine ev_call 10 #[.agg #[nI (q26.spans),nI (q26.start),nI (q26.assist)]] hF32 rfl rfl (by kernel_rfl) rfl (by kernel_rfl) (fun w=>by kernel_rfl) ?_
   obtain ⟨s33,x34,x35,x36,x37,hx38,hm39⟩:=bind5E hm28; clear hm28
   refine (store_New.ok hS31 hx38).mono ?_
   rintro _ w40 ⟨z44,z45,z46,rfl,hS42⟩ a41 hF43; clear hF32 hS31
   refine ev_runK 5 hF43 [1,2,7,8,9,10,11] (l':=[(11,nI x37),(10,nP z44 0),(9,.bool (y18)),(8,nI x9),(7,.pointer none),(1,nI i1),(2,nI i2)]) (w':=w40) (by kernel_rfl) ?_
   intro a50 hF49; clear hF43
   refine wpList_nil (thenN (wp_seq (wp_seq ?_)))
   refine joinQ (fun aI wI=>∃ (y51:Bool),Fr 130 aI [(64,.bool (y51)),(10,nP z44 0),(9,.bool (y18)),(8,nI x9),(7,.pointer none),(1,nI i1),(2,nI i2)]∧St w0 F0 (BlkP z44 69 #[nP z45 0,nI x34,nI x35,nI x36]::HeapP z45 z46 s33::ps) wI∧StoreRefusesE.j2 i1 i2 k x9 y18 s33 x34 x35 x36 y51=some r0) ?_ ?_
   rotate_left
   · rintro a53 w54 ⟨y51,hF55,hS56,hm57⟩
     clear hF49 hS42 hm39
     unfold StoreRefusesE.j2 at hm57
     refine thenN ?_
     cases hc59:(y51)
     case true =>
      rw [hc59] at hF55
      have hm60:=ifYes hc59 hm57; clear hm57
      refine ev_condT hF55 rfl rfl ?_
      refine wp_seq (wp_region_lit ?_)
      refine ev_runK 1 hF55 [6] (l':=[(6,.bool false)]) (w':=w54) (by kernel_rfl) ?_
      intro a62 hF61; clear hF55
      refine wpList_nil ?_
      have hS63:=hS56.drop.drop
      clear hS56
      refine thenN ?_
      refine wp_ret ?_
      refine thenR ?_
      obtain rfl:=Option.some.inj hm60
      refine ev_ret hF61 [6] (.bool false) rfl rfl rfl ?_
      exact ⟨rfl,hS63⟩
     rw [hc59] at hF55
     have hm65:=ifNot hc59 hm57; clear hm57
     refine ev_condF hF55 rfl rfl ?_
     refine wp_skip ?_
     have hF66:=hF55.keep [1,2,7,8,9,10]
     clear hF55
     refine thenN (wp_seq (wp_region_lit ?_))
     refine ev_runs 6 hF66 (l':=[(71,.slice (some ⟨w54.heap.size,0,none⟩) 2 2),(70,.agg #[nI i1,nI i2]),(69,nI i2),(68,nI i1),(67,.agg #[nI 5,nI 0]),(66,nP z44 0),(10,nP z44 0),(9,.bool (y18)),(8,nI x9),(7,.pointer none),(1,nI i1),(2,nI i2)]) (w':=w54.alloc (.cells #[nI 5,nI 0,nI i1,nI i2] 43)) (by kernel_rfl) ?_
     intro a69 hF68; clear hF66
     have hS70:St w0 F0 (RowX kNd (.slice (some ⟨w54.heap.size,0,none⟩) 2 2) [(⟨5,0⟩:Nd),(⟨i1,i2⟩:Nd)]::BlkP z44 69 #[nP z45 0,nI x34,nI x35,nI x36]::HeapP z45 z46 s33::ps) (w54.alloc (.cells #[nI 5,nI 0,nI i1,nI i2] 43)):=St.litX kNd hS56 [(⟨5,0⟩:Nd),(⟨i1,i2⟩:Nd)] (by unfold maxLen; simp)
     clear hS56
     have hS72:St w0 F0 (RowP (.slice none 0 0) []::RowX kNd (.slice (some ⟨w54.heap.size,0,none⟩) 2 2) [(⟨5,0⟩:Nd),(⟨i1,i2⟩:Nd)]::BlkP z44 69 #[nP z45 0,nI x34,nI x35,nI x36]::HeapP z45 z46 s33::ps) (w54.alloc (.cells #[nI 5,nI 0,nI i1,nI i2] 43)):=St.nil hS70
     clear hS70
     have hS73:=hS72.pick1.pick3.pick3
     clear hS72
     refine ev_call 16 #[nP z44 0,.slice (some ⟨w54.heap.size,0,none⟩) 2 2,.slice none 0 0] hF68 rfl rfl (by kernel_rfl) rfl (by kernel_rfl) (fun w=>by kernel_rfl) ?_
     obtain ⟨L74,L75,x76,s77,hx78,hm79⟩:=bind4E hm65; clear hm65
     refine (store_Alloc.ok hS73 hx78).mono ?_
     rintro _ w80 ⟨z84,z85,rfl,hS82⟩ a81 hF83; clear hF68 hS73
     obtain ⟨hl91,p88,c89,rfl,hp90⟩:=St.shape hS82 4 rfl
     obtain ⟨hl95,p92,c93,rfl,hp94⟩:=St.shapeG (k:=5) hS82 rfl
     refine ev_runK 7 hF83 [1,2,7,8,9,14] (l':=[(14,nI x76),(9,.bool (y18)),(8,nI x9),(7,.pointer none),(1,nI i1),(2,nI i2)]) (w':=w80) (by kernel_rfl) ?_
     intro a97 hF96; clear hF83
     refine wpList_nil ?_
     have hS98:=hS82.drop.drop.drop.drop.drop.drop
     clear hS82
     refine thenN (wp_seq (wp_region_lit ?_))
     refine ev_runs 2 hF96 (l':=[(78,nI i2),(77,nI i1),(14,nI x76),(9,.bool (y18)),(8,nI x9),(7,.pointer none),(1,nI i1),(2,nI i2)]) (w':=w80) (by kernel_rfl) ?_
     intro a100 hF99; clear hF96
     refine ev_call 13 #[nI i1,nI i2] hF99 rfl rfl (by kernel_rfl) rfl (by kernel_rfl) (fun w=>by kernel_rfl) ?_
     refine (q_Need hS98).mono ?_
     rintro _ w101 ⟨rfl,hS103⟩ a102 hF104; clear hF99 hS98
     refine ev_runK 5 hF104 [7,8,9,14,16] (l':=[(16,.bool (rKnown i1 i2)),(14,nI x76),(9,.bool (y18)),(8,nI x9),(7,.pointer none)]) (w':=w101) (by kernel_rfl) ?_
     intro a106 hF105; clear hF104
     refine wpList_nil (thenN (wp_seq (wp_region_lit ?_)))
     refine ev_runs 1 hF105 (l':=[(17,.pointer none),(16,.bool (rKnown i1 i2)),(14,nI x76),(9,.bool (y18)),(8,nI x9),(7,.pointer none)]) (w':=w101) (by kernel_rfl) ?_
     intro a108 hF107; clear hF105
     refine wpList_nil (thenN (wp_seq (wp_region_lit ?_)))
     refine ev_runs 1 hF107 (l':=[(83,.pointer none),(17,.pointer none),(16,.bool (rKnown i1 i2)),(14,nI x76),(9,.bool (y18)),(8,nI x9),(7,.pointer none)]) (w':=w101) (by kernel_rfl) ?_
     intro a110 hF109; clear hF107
     have hS112:St w0 F0 (RowX kNd (.slice none 0 0) []::ps) w101:=St.nilX kNd hS103
     clear hS103
     have hS114:St w0 F0 (RowP (.slice none 0 0) []::RowX kNd (.slice none 0 0) []::ps) w101:=St.nil hS112
     clear hS112
     have hS115:=hS114.pick1
     clear hS114
     refine ev_call 16 #[.pointer none,.slice none 0 0,.slice none 0 0] hF109 rfl rfl (by kernel_rfl) rfl (by kernel_rfl) (fun w=>by kernel_rfl) ?_
     obtain ⟨L116,L117,x118,hx119,hm120⟩:=bind3E hm79; clear hm79
     refine (store_AllocN.ok hS115 hx119).mono ?_
     rintro _ w121 ⟨z125,z126,rfl,hS123⟩ a122 hF124; clear hF109 hS115
     obtain ⟨hl132,p129,c130,rfl,hp131⟩:=St.shape hS123 2 rfl
     obtain ⟨hl136,p133,c134,rfl,hp135⟩:=St.shapeG (k:=3) hS123 rfl
     refine ev_runK 7 hF124 [7,8,9,14,16,17,20] (l':=[(20,nI x118),(17,.pointer none),(16,.bool (rKnown i1 i2)),(14,nI x76),(9,.bool (y18)),(8,nI x9),(7,.pointer none)]) (w':=w121) (by kernel_rfl) ?_
     intro a138 hF137; clear hF124
     refine wpList_nil ?_
     have hS139:=hS123.drop.drop.drop.drop
     clear hS123
     refine thenN (wp_seq ?_)
     refine joinQ (fun aI wI=>∃ (y140:Bool),Fr 130 aI [(6,.bool (y140))]∧St w0 F0 (ps) wI∧StoreRefusesE.j3 y140=some r0) ?_ ?_
     rotate_left
     · rintro a142 w143 ⟨y140,hF144,hS145,hm146⟩
       clear hF137 hS139 hm120
       unfold StoreRefusesE.j3 at hm146
       refine thenN ?_
       refine wp_ret ?_
       obtain rfl:=Option.some.inj hm146
       refine ev_ret hF144 [6] (.bool (y140)) rfl rfl rfl ?_
       exact ⟨rfl,hS145⟩
     · skip
       refine wp_region_lit ?_
       refine ev_call 11 #[] hF137 rfl rfl (by kernel_rfl) rfl (by kernel_rfl) (fun w=>by kernel_rfl) ?_
       obtain ⟨y149,hx150,hm151⟩:=bind1E hm120; clear hm120
       refine (law21_awake.ok hS139 hx150).mono ?_
       rintro _ w152 ⟨rfl,hS154⟩ a153 hF155; clear hF137 hS139
       refine ev_runs 1 hF155 (l':=[(89,.bool (y149)),(88,.bool (y149)),(20,nI x118),(17,.pointer none),(16,.bool (rKnown i1 i2)),(14,nI x76),(9,.bool (y18)),(8,nI x9),(7,.pointer none)]) (w':=w152) (by kernel_rfl) ?_
       intro a157 hF156; clear hF155
       cases hc158:(y149)
       case true =>
        rw [hc158] at hF156
        have hm159:=ifYes hc158 hm151; clear hm151
        refine ev_runs 6 hF156 (l':=[(95,.bool ((x9 == 0) == (y18))),(94,.bool ((x9 == 0) == (y18))),(93,.bool ((x9 == 0) == (y18))),(92,.bool (y18)),(91,.bool (x9 == 0)),(90,nI x9),(89,.bool true),(88,.bool true),(20,nI x118),(17,.pointer none),(16,.bool (rKnown i1 i2)),(14,nI x76),(9,.bool (y18)),(8,nI x9),(7,.pointer none)]) (w':=w152) (by kernel_rfl) ?_
        intro a161 hF160; clear hF156
        cases hc162:((x9 == 0) == (y18))
        case true =>
         rw [hc162] at hF160
         have hm163:=ifYes hc162 hm159; clear hm159
         refine ev_runs 6 hF160 (l':=[(101,.bool ((false) == (y18))),(100,.bool ((false) == (y18))),(99,.bool ((false) == (y18))),(98,.bool (y18)),(97,.bool false),(96,.pointer none),(95,.bool true),(94,.bool true),(93,.bool true),(92,.bool (y18)),(91,.bool (x9 == 0)),(90,nI x9),(89,.bool true),(88,.bool true),(20,nI x118),(17,.pointer none),(16,.bool (rKnown i1 i2)),(14,nI x76),(9,.bool (y18)),(8,nI x9),(7,.pointer none)]) (w':=w152) (by kernel_rfl) ?_
         intro a165 hF164; clear hF160
         cases hc166:((false) == (y18))
         case true =>
          rw [hc166] at hF164
          have hm167:=ifYes hc166 hm163; clear hm163
          refine ev_runs 6 hF164 (l':=[(107,.bool ((x76 == 0) == (rKnown i1 i2))),(106,.bool ((x76 == 0) == (rKnown i1 i2))),(105,.bool ((x76 == 0) == (rKnown i1 i2))),(104,.bool (rKnown i1 i2)),(103,.bool (x76 == 0)),(102,nI x76),(101,.bool true),(100,.bool true),(99,.bool true),(98,.bool (y18)),(97,.bool false),(96,.pointer none),(95,.bool true),(94,.bool true),(93,.bool true),(92,.bool (y18)),(91,.bool (x9 == 0)),(90,nI x9),(89,.bool true),(88,.bool true),(20,nI x118),(17,.pointer none),(16,.bool (rKnown i1 i2)),(14,nI x76),(9,.bool (y18)),(8,nI x9),(7,.pointer none)]) (w':=w152) (by kernel_rfl) ?_
          intro a169 hF168; clear hF164
          cases hc170:((x76 == 0) == (rKnown i1 i2))
          case true =>
           rw [hc170] at hF168
           have hm171:=ifYes hc170 hm167; clear hm167
           refine ev_runs 3 hF168 (l':=[(110,.bool (x76 == 0)),(109,.bool (x76 == 0)),(108,nI x76),(107,.bool true),(106,.bool true),(105,.bool true),(104,.bool (rKnown i1 i2)),(103,.bool (x76 == 0)),(102,nI x76),(101,.bool true),(100,.bool true),(99,.bool true),(98,.bool (y18)),(97,.bool false),(96,.pointer none),(95,.bool true),(94,.bool true),(93,.bool true),(92,.bool (y18)),(91,.bool (x9 == 0)),(90,nI x9),(89,.bool true),(88,.bool true),(20,nI x118),(17,.pointer none),(16,.bool (rKnown i1 i2)),(14,nI x76),(9,.bool (y18)),(8,nI x9),(7,.pointer none)]) (w':=w152) (by kernel_rfl) ?_
           intro a173 hF172; clear hF168
           cases hc174:(x76 == 0)
           case true =>
            rw [hc174] at hF172
            have hm175:=ifYes hc174 hm171; clear hm171
            refine ev_runs 9 hF172 (l':=[(119,.bool (x118 == 2)),(118,.bool (x118 == 2)),(117,.bool (x118 == 2)),(116,nI x118),(115,.bool true),(114,.bool true),(113,.bool true),(112,.tuple #[]),(111,.tuple #[]),(110,.bool true),(109,.bool true),(108,nI x76),(107,.bool true),(106,.bool true),(105,.bool true),(104,.bool (rKnown i1 i2)),(103,.bool true),(102,nI x76),(101,.bool true),(100,.bool true),(99,.bool true),(98,.bool (y18)),(97,.bool false),(96,.pointer none),(95,.bool true),(94,.bool true),(93,.bool true),(92,.bool (y18)),(91,.bool (x9 == 0)),(90,nI x9),(89,.bool true),(88,.bool true),(20,nI x118),(17,.pointer none),(16,.bool (rKnown i1 i2)),(14,nI x76),(9,.bool (y18)),(8,nI x9),(7,.pointer none)]) (w':=w152) (by kernel_rfl) ?_
            intro a177 hF176; clear hF172
            cases hc178:(x118 == 2)
            case true =>
             rw [hc178] at hF176
             have hm179:=ifYes hc178 hm175; clear hm175
             refine ev_runs 1 hF176 (l':=[(120,.pointer none),(119,.bool true),(118,.bool true),(117,.bool true),(116,nI x118),(115,.bool true),(114,.bool true),(113,.bool true),(112,.tuple #[]),(111,.tuple #[]),(110,.bool true),(109,.bool true),(108,nI x76),(107,.bool true),(106,.bool true),(105,.bool true),(104,.bool (rKnown i1 i2)),(103,.bool true),(102,nI x76),(101,.bool true),(100,.bool true),(99,.bool true),(98,.bool (y18)),(97,.bool false),(96,.pointer none),(95,.bool true),(94,.bool true),(93,.bool true),(92,.bool (y18)),(91,.bool (x9 == 0)),(90,nI x9),(89,.bool true),(88,.bool true),(20,nI x118),(17,.pointer none),(16,.bool (rKnown i1 i2)),(14,nI x76),(9,.bool (y18)),(8,nI x9),(7,.pointer none)]) (w':=w152) (by kernel_rfl) ?_
             intro a181 hF180; clear hF176
             refine ev_call 12 #[.pointer none] hF180 rfl rfl (by kernel_rfl) rfl (by kernel_rfl) (fun w=>by kernel_rfl) ?_
             obtain ⟨u182,hx183,hm184⟩:=bind1E hm179; clear hm179
             refine (store_HeapN.ok hS154 hx183).mono ?_
             rintro _ w185 ⟨rfl,hS187⟩ a186 hF188; clear hF180 hS154
             refine ev_runs 4 hF188 (l':=[(125,.pointer none),(124,.bool true),(123,.bool true),(122,.bool true),(121,.pointer none),(120,.pointer none),(119,.bool true),(118,.bool true),(117,.bool true),(116,nI x118),(115,.bool true),(114,.bool true),(113,.bool true),(112,.tuple #[]),(111,.tuple #[]),(110,.bool true),(109,.bool true),(108,nI x76),(107,.bool true),(106,.bool true),(105,.bool true),(104,.bool (rKnown i1 i2)),(103,.bool true),(102,nI x76),(101,.bool true),(100,.bool true),(99,.bool true),(98,.bool (y18)),(97,.bool false),(96,.pointer none),(95,.bool true),(94,.bool true),(93,.bool true),(92,.bool (y18)),(91,.bool (x9 == 0)),(90,nI x9),(89,.bool true),(88,.bool true),(20,nI x118),(17,.pointer none),(16,.bool (rKnown i1 i2)),(14,nI x76),(9,.bool (y18)),(8,nI x9),(7,.pointer none)]) (w':=w185) (by kernel_rfl) ?_
             intro a190 hF189; clear hF188
             have hS192:St w0 F0 (RowP (.slice none 0 0) []::ps) w185:=St.nil hS187
             clear hS187
             refine ev_call 24 #[.pointer none,.slice none 0 0] hF189 rfl rfl (by kernel_rfl) rfl (by kernel_rfl) (fun w=>by kernel_rfl) ?_
             obtain ⟨L193,hx194,hm195⟩:=bind1E hm184; clear hm184
             refine (store_CollectN.ok hS192 hx194).mono ?_
             rintro _ w196 ⟨z200,rfl,hS198⟩ a197 hF199; clear hF189 hS192
             obtain ⟨hl205,p202,c203,rfl,hp204⟩:=St.shapeG (k:=1) hS198 rfl
             refine ev_runK 4 hF199 [6] (l':=[(6,.bool ((L193.length:Int) == 0))]) (w':=w196) (by kernel_rfl) ?_
             intro a207 hF206; clear hF199
             refine wpList_nil ?_
             have hS208:=hS198.drop.drop
             clear hS198
             exact thenN ⟨(L193.length:Int) == 0,hF206,hS208,hm195⟩
            rw [hc178] at hF176
            have hm209:=ifNot hc178 hm175; clear hm175
            refine ev_runK 11 hF176 [6] (l':=[(6,.bool false)]) (w':=w152) (by kernel_rfl) ?_
            intro a211 hF210; clear hF176
            refine wpList_nil ?_
            exact thenN ⟨false,hF210,hS154,hm209⟩
           rw [hc174] at hF172
           have hm212:=ifNot hc174 hm171; clear hm171
           refine ev_runs 5 hF172 (l':=[(115,.bool (x76 == 1)),(114,.bool (x76 == 1)),(113,.bool (x76 == 1)),(112,.bool (x76 == 1)),(111,nI x76),(110,.bool false),(109,.bool false),(108,nI x76),(107,.bool true),(106,.bool true),(105,.bool true),(104,.bool (rKnown i1 i2)),(103,.bool false),(102,nI x76),(101,.bool true),(100,.bool true),(99,.bool true),(98,.bool (y18)),(97,.bool false),(96,.pointer none),(95,.bool true),(94,.bool true),(93,.bool true),(92,.bool (y18)),(91,.bool (x9 == 0)),(90,nI x9),(89,.bool true),(88,.bool true),(20,nI x118),(17,.pointer none),(16,.bool (rKnown i1 i2)),(14,nI x76),(9,.bool (y18)),(8,nI x9),(7,.pointer none)]) (w':=w152) (by kernel_rfl) ?_
           intro a214 hF213; clear hF172
           cases hc215:(x76 == 1)
           case true =>
            rw [hc215] at hF213
            have hm216:=ifYes hc215 hm212; clear hm212
            refine ev_runs 4 hF213 (l':=[(119,.bool (x118 == 2)),(118,.bool (x118 == 2)),(117,.bool (x118 == 2)),(116,nI x118),(115,.bool true),(114,.bool true),(113,.bool true),(112,.bool true),(111,nI x76),(110,.bool false),(109,.bool false),(108,nI x76),(107,.bool true),(106,.bool true),(105,.bool true),(104,.bool (rKnown i1 i2)),(103,.bool false),(102,nI x76),(101,.bool true),(100,.bool true),(99,.bool true),(98,.bool (y18)),(97,.bool false),(96,.pointer none),(95,.bool true),(94,.bool true),(93,.bool true),(92,.bool (y18)),(91,.bool (x9 == 0)),(90,nI x9),(89,.bool true),(88,.bool true),(20,nI x118),(17,.pointer none),(16,.bool (rKnown i1 i2)),(14,nI x76),(9,.bool (y18)),(8,nI x9),(7,.pointer none)]) (w':=w152) (by kernel_rfl) ?_
            intro a218 hF217; clear hF213
            cases hc219:(x118 == 2)
            case true =>
             rw [hc219] at hF217
             have hm220:=ifYes hc219 hm216; clear hm216
             refine ev_runs 1 hF217 (l':=[(120,.pointer none),(119,.bool true),(118,.bool true),(117,.bool true),(116,nI x118),(115,.bool true),(114,.bool true),(113,.bool true),(112,.bool true),(111,nI x76),(110,.bool false),(109,.bool false),(108,nI x76),(107,.bool true),(106,.bool true),(105,.bool true),(104,.bool (rKnown i1 i2)),(103,.bool false),(102,nI x76),(101,.bool true),(100,.bool true),(99,.bool true),(98,.bool (y18)),(97,.bool false),(96,.pointer none),(95,.bool true),(94,.bool true),(93,.bool true),(92,.bool (y18)),(91,.bool (x9 == 0)),(90,nI x9),(89,.bool true),(88,.bool true),(20,nI x118),(17,.pointer none),(16,.bool (rKnown i1 i2)),(14,nI x76),(9,.bool (y18)),(8,nI x9),(7,.pointer none)]) (w':=w152) (by kernel_rfl) ?_
             intro a222 hF221; clear hF217
             refine ev_call 12 #[.pointer none] hF221 rfl rfl (by kernel_rfl) rfl (by kernel_rfl) (fun w=>by kernel_rfl) ?_
             obtain ⟨u223,hx224,hm225⟩:=bind1E hm220; clear hm220
             refine (store_HeapN.ok hS154 hx224).mono ?_
             rintro _ w226 ⟨rfl,hS228⟩ a227 hF229; clear hF221 hS154
             refine ev_runs 4 hF229 (l':=[(125,.pointer none),(124,.bool true),(123,.bool true),(122,.bool true),(121,.pointer none),(120,.pointer none),(119,.bool true),(118,.bool true),(117,.bool true),(116,nI x118),(115,.bool true),(114,.bool true),(113,.bool true),(112,.bool true),(111,nI x76),(110,.bool false),(109,.bool false),(108,nI x76),(107,.bool true),(106,.bool true),(105,.bool true),(104,.bool (rKnown i1 i2)),(103,.bool false),(102,nI x76),(101,.bool true),(100,.bool true),(99,.bool true),(98,.bool (y18)),(97,.bool false),(96,.pointer none),(95,.bool true),(94,.bool true),(93,.bool true),(92,.bool (y18)),(91,.bool (x9 == 0)),(90,nI x9),(89,.bool true),(88,.bool true),(20,nI x118),(17,.pointer none),(16,.bool (rKnown i1 i2)),(14,nI x76),(9,.bool (y18)),(8,nI x9),(7,.pointer none)]) (w':=w226) (by kernel_rfl) ?_
             intro a231 hF230; clear hF229
             have hS233:St w0 F0 (RowP (.slice none 0 0) []::ps) w226:=St.nil hS228
             clear hS228
             refine ev_call 24 #[.pointer none,.slice none 0 0] hF230 rfl rfl (by kernel_rfl) rfl (by kernel_rfl) (fun w=>by kernel_rfl) ?_
             obtain ⟨L234,hx235,hm236⟩:=bind1E hm225; clear hm225
             refine (store_CollectN.ok hS233 hx235).mono ?_
             rintro _ w237 ⟨z241,rfl,hS239⟩ a238 hF240; clear hF230 hS233
             obtain ⟨hl246,p243,c244,rfl,hp245⟩:=St.shapeG (k:=1) hS239 rfl
             refine ev_runK 4 hF240 [6] (l':=[(6,.bool ((L234.length:Int) == 0))]) (w':=w237) (by kernel_rfl) ?_
             intro a248 hF247; clear hF240
             refine wpList_nil ?_
             have hS249:=hS239.drop.drop
             clear hS239
             exact thenN ⟨(L234.length:Int) == 0,hF247,hS249,hm236⟩
            rw [hc219] at hF217
            have hm250:=ifNot hc219 hm216; clear hm216
            refine ev_runK 11 hF217 [6] (l':=[(6,.bool false)]) (w':=w152) (by kernel_rfl) ?_
            intro a252 hF251; clear hF217
            refine wpList_nil ?_
            exact thenN ⟨false,hF251,hS154,hm250⟩
           rw [hc215] at hF213
           have hm253:=ifNot hc215 hm212; clear hm212
           refine ev_runK 15 hF213 [6] (l':=[(6,.bool false)]) (w':=w152) (by kernel_rfl) ?_
           intro a255 hF254; clear hF213
           refine wpList_nil ?_
           exact thenN ⟨false,hF254,hS154,hm253⟩
          rw [hc170] at hF168
          have hm256:=ifNot hc170 hm167; clear hm167
          refine ev_runK 23 hF168 [6] (l':=[(6,.bool false)]) (w':=w152) (by kernel_rfl) ?_
          intro a258 hF257; clear hF168
          refine wpList_nil ?_
          exact thenN ⟨false,hF257,hS154,hm256⟩
         rw [hc166] at hF164
         have hm259:=ifNot hc166 hm163; clear hm163
         refine ev_runK 29 hF164 [6] (l':=[(6,.bool false)]) (w':=w152) (by kernel_rfl) ?_
         intro a261 hF260; clear hF164
         refine wpList_nil ?_
         exact thenN ⟨false,hF260,hS154,hm259⟩
        rw [hc162] at hF160
        have hm262:=ifNot hc162 hm159; clear hm159
        refine ev_runK 35 hF160 [6] (l':=[(6,.bool false)]) (w':=w152) (by kernel_rfl) ?_
        intro a264 hF263; clear hF160
        refine wpList_nil ?_
        exact thenN ⟨false,hF263,hS154,hm262⟩
       rw [hc158] at hF156
       have hm265:=ifNot hc158 hm151; clear hm151
       refine ev_runK 41 hF156 [6] (l':=[(6,.bool false)]) (w':=w152) (by kernel_rfl) ?_
       intro a267 hF266; clear hF156
       refine wpList_nil ?_
       exact thenN ⟨false,hF266,hS154,hm265⟩
   · skip
     refine wp_region_lit ?_
     refine ev_runs 3 hF49 (l':=[(61,.bool (x37 != 0)),(60,.bool (x37 != 0)),(59,nI x37),(11,nI x37),(10,nP z44 0),(9,.bool (y18)),(8,nI x9),(7,.pointer none),(1,nI i1),(2,nI i2)]) (w':=w40) (by kernel_rfl) ?_
     intro a269 hF268; clear hF49
     cases hc270:(x37 != 0)
     case true =>
      rw [hc270] at hF268
      have hm271:=ifYes hc270 hm39; clear hm39
      refine ev_runK 3 hF268 [1,2,7,8,9,10,64] (l':=[(64,.bool true),(10,nP z44 0),(9,.bool (y18)),(8,nI x9),(7,.pointer none),(1,nI i1),(2,nI i2)]) (w':=w40) (by kernel_rfl) ?_
      intro a273 hF272; clear hF268
      refine wpList_nil ?_
      exact thenN ⟨true,hF272,hS42,hm271⟩
     rw [hc270] at hF268
     have hm274:=ifNot hc270 hm39; clear hm39
     refine ev_runK 3 hF268 [1,2,7,8,9,10,64] (l':=[(64,.bool false),(10,nP z44 0),(9,.bool (y18)),(8,nI x9),(7,.pointer none),(1,nI i1),(2,nI i2)]) (w':=w40) (by kernel_rfl) ?_
     intro a276 hF275; clear hF268
     refine wpList_nil ?_
     exact thenN ⟨false,hF275,hS42,hm274⟩
 · skip
   refine wp_region_lit ?_
   refine ev_runs 1 hF16 (l':=[(26,nP (w.heap.size) 1),(8,nI x9),(7,.pointer none),(3,nB w),(1,nI i1),(2,nI i2)]) (w':=w12) (by kernel_rfl) ?_
   intro a278 hF277; clear hF16
   refine ev_one (nI (i0.start)) w12 hF277 (by kernel_rfl) rfl (by kernel_rfl) (run_loadV rfl rfl (run_loadS rfl rfl (hS14.cell 0 rfl 1 rfl))) (l':=[(27,nI (i0.start)),(26,nP (w.heap.size) 1),(8,nI x9),(7,.pointer none),(3,nB w),(1,nI i1),(2,nI i2)]) (by kernel_rfl) ?_
   intro a280 hF279; clear hF277
   refine ev_runs 2 hF279 (l':=[(29,.bool (decide (i0.start ≥ 1))),(28,.bool (decide (i0.start ≥ 1))),(27,nI (i0.start)),(26,nP (w.heap.size) 1),(8,nI x9),(7,.pointer none),(3,nB w),(1,nI i1),(2,nI i2)]) (w':=w12) (by kernel_rfl) ?_
   intro a282 hF281; clear hF279
   cases hc283:(decide (i0.start ≥ 1))
   case true =>
    rw [hc283] at hF281
    have hm284:=ifYes hc283 hm11; clear hm11
    refine ev_runs 1 hF281 (l':=[(30,nP (w.heap.size) 1),(29,.bool true),(28,.bool true),(27,nI (i0.start)),(26,nP (w.heap.size) 1),(8,nI x9),(7,.pointer none),(3,nB w),(1,nI i1),(2,nI i2)]) (w':=w12) (by kernel_rfl) ?_
    intro a286 hF285; clear hF281
    refine ev_one (nI (i0.start)) w12 hF285 (by kernel_rfl) rfl (by kernel_rfl) (run_loadV rfl rfl (run_loadS rfl rfl (hS14.cell 0 rfl 1 rfl))) (l':=[(31,nI (i0.start)),(30,nP (w.heap.size) 1),(29,.bool true),(28,.bool true),(27,nI (i0.start)),(26,nP (w.heap.size) 1),(8,nI x9),(7,.pointer none),(3,nB w),(1,nI i1),(2,nI i2)]) (by kernel_rfl) ?_
    intro a288 hF287; clear hF285
    refine ev_runs 3 hF287 (l':=[(34,.bool (decide (i0.start≤100))),(33,.bool (decide (i0.start≤100))),(32,.bool (decide (i0.start≤100))),(31,nI (i0.start)),(30,nP (w.heap.size) 1),(29,.bool true),(28,.bool true),(27,nI (i0.start)),(26,nP (w.heap.size) 1),(8,nI x9),(7,.pointer none),(3,nB w),(1,nI i1),(2,nI i2)]) (w':=w12) (by kernel_rfl) ?_
    intro a290 hF289; clear hF287
    cases hc291:(decide (i0.start≤100))
    case true =>
     rw [hc291] at hF289
     have hm292:=ifYes hc291 hm284; clear hm284
     refine ev_runs 1 hF289 (l':=[(35,nP (w.heap.size) 2),(34,.bool true),(33,.bool true),(32,.bool true),(31,nI (i0.start)),(30,nP (w.heap.size) 1),(29,.bool true),(28,.bool true),(27,nI (i0.start)),(26,nP (w.heap.size) 1),(8,nI x9),(7,.pointer none),(3,nB w),(1,nI i1),(2,nI i2)]) (w':=w12) (by kernel_rfl) ?_
     intro a294 hF293; clear hF289
     refine ev_one (nI (i0.assist)) w12 hF293 (by kernel_rfl) rfl (by kernel_rfl) (run_loadV rfl rfl (run_loadS rfl rfl (hS14.cell 0 rfl 2 rfl))) (l':=[(36,nI (i0.assist)),(35,nP (w.heap.size) 2),(34,.bool true),(33,.bool true),(32,.bool true),(31,nI (i0.start)),(30,nP (w.heap.size) 1),(29,.bool true),(28,.bool true),(27,nI (i0.start)),(26,nP (w.heap.size) 1),(8,nI x9),(7,.pointer none),(3,nB w),(1,nI i1),(2,nI i2)]) (by kernel_rfl) ?_
     intro a296 hF295; clear hF293
     refine ev_runs 3 hF295 (l':=[(39,.bool (decide (i0.assist ≥ 0))),(38,.bool (decide (i0.assist ≥ 0))),(37,.bool (decide (i0.assist ≥ 0))),(36,nI (i0.assist)),(35,nP (w.heap.size) 2),(34,.bool true),(33,.bool true),(32,.bool true),(31,nI (i0.start)),(30,nP (w.heap.size) 1),(29,.bool true),(28,.bool true),(27,nI (i0.start)),(26,nP (w.heap.size) 1),(8,nI x9),(7,.pointer none),(3,nB w),(1,nI i1),(2,nI i2)]) (w':=w12) (by kernel_rfl) ?_
     intro a298 hF297; clear hF295
     cases hc299:(decide (i0.assist ≥ 0))
     case true =>
      rw [hc299] at hF297
      have hm300:=ifYes hc299 hm292; clear hm292
      refine ev_runs 1 hF297 (l':=[(40,nP (w.heap.size) 2),(39,.bool true),(38,.bool true),(37,.bool true),(36,nI (i0.assist)),(35,nP (w.heap.size) 2),(34,.bool true),(33,.bool true),(32,.bool true),(31,nI (i0.start)),(30,nP (w.heap.size) 1),(29,.bool true),(28,.bool true),(27,nI (i0.start)),(26,nP (w.heap.size) 1),(8,nI x9),(7,.pointer none),(3,nB w),(1,nI i1),(2,nI i2)]) (w':=w12) (by kernel_rfl) ?_
      intro a302 hF301; clear hF297
      refine ev_one (nI (i0.assist)) w12 hF301 (by kernel_rfl) rfl (by kernel_rfl) (run_loadV rfl rfl (run_loadS rfl rfl (hS14.cell 0 rfl 2 rfl))) (l':=[(41,nI (i0.assist)),(40,nP (w.heap.size) 2),(39,.bool true),(38,.bool true),(37,.bool true),(36,nI (i0.assist)),(35,nP (w.heap.size) 2),(34,.bool true),(33,.bool true),(32,.bool true),(31,nI (i0.start)),(30,nP (w.heap.size) 1),(29,.bool true),(28,.bool true),(27,nI (i0.start)),(26,nP (w.heap.size) 1),(8,nI x9),(7,.pointer none),(3,nB w),(1,nI i1),(2,nI i2)]) (by kernel_rfl) ?_
      intro a304 hF303; clear hF301
      refine ev_runs 3 hF303 (l':=[(44,.bool (decide (i0.assist≤8))),(43,.bool (decide (i0.assist≤8))),(42,.bool (decide (i0.assist≤8))),(41,nI (i0.assist)),(40,nP (w.heap.size) 2),(39,.bool true),(38,.bool true),(37,.bool true),(36,nI (i0.assist)),(35,nP (w.heap.size) 2),(34,.bool true),(33,.bool true),(32,.bool true),(31,nI (i0.start)),(30,nP (w.heap.size) 1),(29,.bool true),(28,.bool true),(27,nI (i0.start)),(26,nP (w.heap.size) 1),(8,nI x9),(7,.pointer none),(3,nB w),(1,nI i1),(2,nI i2)]) (w':=w12) (by kernel_rfl) ?_
      intro a306 hF305; clear hF303
      cases hc307:(decide (i0.assist≤8))
      case true =>
       rw [hc307] at hF305
       have hm308:=ifYes hc307 hm300; clear hm300
       refine ev_runs 1 hF305 (l':=[(45,nB w),(44,.bool true),(43,.bool true),(42,.bool true),(41,nI (i0.assist)),(40,nP (w.heap.size) 2),(39,.bool true),(38,.bool true),(37,.bool true),(36,nI (i0.assist)),(35,nP (w.heap.size) 2),(34,.bool true),(33,.bool true),(32,.bool true),(31,nI (i0.start)),(30,nP (w.heap.size) 1),(29,.bool true),(28,.bool true),(27,nI (i0.start)),(26,nP (w.heap.size) 1),(8,nI x9),(7,.pointer none),(3,nB w),(1,nI i1),(2,nI i2)]) (w':=w12) (by kernel_rfl) ?_
       intro a310 hF309; clear hF305
       refine ev_one (nI (i0.spans)) w12 hF309 (by kernel_rfl) rfl (by kernel_rfl) (run_loadV rfl rfl (run_loadS rfl rfl (hS14.cell 0 rfl 0 rfl))) (l':=[(46,nI (i0.spans)),(45,nB w),(44,.bool true),(43,.bool true),(42,.bool true),(41,nI (i0.assist)),(40,nP (w.heap.size) 2),(39,.bool true),(38,.bool true),(37,.bool true),(36,nI (i0.assist)),(35,nP (w.heap.size) 2),(34,.bool true),(33,.bool true),(32,.bool true),(31,nI (i0.start)),(30,nP (w.heap.size) 1),(29,.bool true),(28,.bool true),(27,nI (i0.start)),(26,nP (w.heap.size) 1),(8,nI x9),(7,.pointer none),(3,nB w),(1,nI i1),(2,nI i2)]) (by kernel_rfl) ?_
       intro a312 hF311; clear hF309
       refine ev_runs 3 hF311 (l':=[(49,.bool (decide (i0.spans ≥ 2))),(48,.bool (decide (i0.spans ≥ 2))),(47,.bool (decide (i0.spans ≥ 2))),(46,nI (i0.spans)),(45,nB w),(44,.bool true),(43,.bool true),(42,.bool true),(41,nI (i0.assist)),(40,nP (w.heap.size) 2),(39,.bool true),(38,.bool true),(37,.bool true),(36,nI (i0.assist)),(35,nP (w.heap.size) 2),(34,.bool true),(33,.bool true),(32,.bool true),(31,nI (i0.start)),(30,nP (w.heap.size) 1),(29,.bool true),(28,.bool true),(27,nI (i0.start)),(26,nP (w.heap.size) 1),(8,nI x9),(7,.pointer none),(3,nB w),(1,nI i1),(2,nI i2)]) (w':=w12) (by kernel_rfl) ?_
       intro a314 hF313; clear hF311
       cases hc315:(decide (i0.spans ≥ 2))
       case true =>
        rw [hc315] at hF313
        have hm316:=ifYes hc315 hm308; clear hm308
        refine ev_runs 1 hF313 (l':=[(50,nB w),(49,.bool true),(48,.bool true),(47,.bool true),(46,nI (i0.spans)),(45,nB w),(44,.bool true),(43,.bool true),(42,.bool true),(41,nI (i0.assist)),(40,nP (w.heap.size) 2),(39,.bool true),(38,.bool true),(37,.bool true),(36,nI (i0.assist)),(35,nP (w.heap.size) 2),(34,.bool true),(33,.bool true),(32,.bool true),(31,nI (i0.start)),(30,nP (w.heap.size) 1),(29,.bool true),(28,.bool true),(27,nI (i0.start)),(26,nP (w.heap.size) 1),(8,nI x9),(7,.pointer none),(3,nB w),(1,nI i1),(2,nI i2)]) (w':=w12) (by kernel_rfl) ?_
        intro a318 hF317; clear hF313
        refine ev_one (nI (i0.spans)) w12 hF317 (by kernel_rfl) rfl (by kernel_rfl) (run_loadV rfl rfl (run_loadS rfl rfl (hS14.cell 0 rfl 0 rfl))) (l':=[(51,nI (i0.spans)),(50,nB w),(49,.bool true),(48,.bool true),(47,.bool true),(46,nI (i0.spans)),(45,nB w),(44,.bool true),(43,.bool true),(42,.bool true),(41,nI (i0.assist)),(40,nP (w.heap.size) 2),(39,.bool true),(38,.bool true),(37,.bool true),(36,nI (i0.assist)),(35,nP (w.heap.size) 2),(34,.bool true),(33,.bool true),(32,.bool true),(31,nI (i0.start)),(30,nP (w.heap.size) 1),(29,.bool true),(28,.bool true),(27,nI (i0.start)),(26,nP (w.heap.size) 1),(8,nI x9),(7,.pointer none),(3,nB w),(1,nI i1),(2,nI i2)]) (by kernel_rfl) ?_
        intro a320 hF319; clear hF317
        refine ev_runK 3 hF319 [1,2,7,8,9] (l':=[(9,.bool (decide (i0.spans≤128))),(8,nI x9),(7,.pointer none),(1,nI i1),(2,nI i2)]) (w':=w12) (by kernel_rfl) ?_
        intro a322 hF321; clear hF319
        refine wpList_nil ?_
        have hS323:=hS14.drop
        clear hS14
        exact thenN ⟨decide (i0.spans≤128),hF321,hS323,hm316⟩
       rw [hc315] at hF313
       have hm324:=ifNot hc315 hm308; clear hm308
       refine ev_runK 5 hF313 [1,2,7,8,9] (l':=[(9,.bool false),(8,nI x9),(7,.pointer none),(1,nI i1),(2,nI i2)]) (w':=w12) (by kernel_rfl) ?_
       intro a326 hF325; clear hF313
       refine wpList_nil ?_
       have hS327:=hS14.drop
       clear hS14
       exact thenN ⟨false,hF325,hS327,hm324⟩
      rw [hc307] at hF305
      have hm328:=ifNot hc307 hm300; clear hm300
      refine ev_runK 10 hF305 [1,2,7,8,9] (l':=[(9,.bool false),(8,nI x9),(7,.pointer none),(1,nI i1),(2,nI i2)]) (w':=w12) (by kernel_rfl) ?_
      intro a330 hF329; clear hF305
      refine wpList_nil ?_
      have hS331:=hS14.drop
      clear hS14
      exact thenN ⟨false,hF329,hS331,hm328⟩
     rw [hc299] at hF297
     have hm332:=ifNot hc299 hm292; clear hm292
     refine ev_runK 15 hF297 [1,2,7,8,9] (l':=[(9,.bool false),(8,nI x9),(7,.pointer none),(1,nI i1),(2,nI i2)]) (w':=w12) (by kernel_rfl) ?_
     intro a334 hF333; clear hF297
     refine wpList_nil ?_
     have hS335:=hS14.drop
     clear hS14
     exact thenN ⟨false,hF333,hS335,hm332⟩
    rw [hc291] at hF289
    have hm336:=ifNot hc291 hm284; clear hm284
    refine ev_runK 20 hF289 [1,2,7,8,9] (l':=[(9,.bool false),(8,nI x9),(7,.pointer none),(1,nI i1),(2,nI i2)]) (w':=w12) (by kernel_rfl) ?_
    intro a338 hF337; clear hF289
    refine wpList_nil ?_
    have hS339:=hS14.drop
    clear hS14
    exact thenN ⟨false,hF337,hS339,hm336⟩
   rw [hc283] at hF281
   have hm340:=ifNot hc283 hm11; clear hm11
   refine ev_runK 25 hF281 [1,2,7,8,9] (l':=[(9,.bool false),(8,nI x9),(7,.pointer none),(1,nI i1),(2,nI i2)]) (w':=w12) (by kernel_rfl) ?_
   intro a342 hF341; clear hF281
   refine wpList_nil ?_
   have hS343:=hS14.drop
   clear hS14
   exact thenN ⟨false,hF341,hS343,hm340⟩
end Go.Proofs.Ytalfiikfaodcmaa
