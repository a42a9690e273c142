/- GRefLive -/
import Derived.Test.YtffnjpapggidlaaGreatKGHelp
import Derived.Test.YtffnjpapggidlaaGreatKPrimV
import Derived.Test.YtffnjpapggidlaaGreatKRowO3
import Derived.Test.YtffnjpapggidlaaGreatKEvMap
import Derived.Test.YtffnjpapggidlaaGreatKRBegin
import Derived.Deep.LoopGhost
import Derived.KernelRfl
namespace Go.Proofs.YtffnjpapggidlaaGreat
open Go.RowKit
set_option linter.unusedVariables false
def ref06_Reach.j16 (x138:Int) (rec141:List Int→Int→Option (List Int×HSt)) (L169:List Int):Option (List Int×HSt):=rec141 L169 (IntKind.i64.wrap (x138+1))
def ref06_Reach.l15b (s0:HSt) (L47:List Int) (L49:List Bool) (rec53:List Int→List Bool→Option (List Int×HSt)) (rec141:List Int→Int→Option (List Int×HSt)) (L136:List Int) (x138:Int):Option (List Int×HSt):=(if (decide (x138<((aWords s0.a (atI L47 (IntKind.i64.wrap ((L47.length:Int) - 1)))).length:Int))) then (if (inR x138 (aWords s0.a (atI L47 (IntKind.i64.wrap ((L47.length:Int) - 1)))).length) then (if (vIsPtr (atI (aWords s0.a (atI L47 (IntKind.i64.wrap ((L47.length:Int) - 1)))) x138)) then bind1 (pAt (atI (aWords s0.a (atI L47 (IntKind.i64.wrap ((L47.length:Int) - 1)))) x138)) fun x192=>bind1 (pushM L136 x192) fun L202=>ref06_Reach.j16 x138 rec141 L202 else ref06_Reach.j16 x138 rec141 L136) else none) else rec53 L136 (setX L49 (atI L47 (IntKind.i64.wrap ((L47.length:Int) - 1))) (true)))
def ref06_Reach.l15 (s0:HSt) (L47:List Int) (L49:List Bool) (rec53:List Int→List Bool→Option (List Int×HSt)):Nat→List Int→Int→Option (List Int×HSt)
  | 0=>fun _ _=>none
  | kI+1=>ref06_Reach.l15b s0 L47 L49 rec53 (ref06_Reach.l15 s0 L47 L49 rec53 kI)
def ref06_Reach.j12 (s0:HSt) (k:Nat) (L47:List Int) (L49:List Bool) (rec53:List Int→List Bool→Option (List Int×HSt)) (y92:Bool):Option (List Int×HSt):=(if (y92) then rec53 (L47.take (IntKind.i64.wrap ((L47.length:Int) - 1)).toNat) L49 else (if (inR (atI L47 (IntKind.i64.wrap ((L47.length:Int) - 1))) L49.length) then ref06_Reach.l15 s0 L47 L49 rec53 k (L47.take (IntKind.i64.wrap ((L47.length:Int) - 1)).toNat) 0 else none))
def ref06_Reach.j20 (x260:Int) (rec263:List Int→Int→Option (List Int×HSt)) (L287:List Int):Option (List Int×HSt):=rec263 L287 (IntKind.i64.wrap (x260+1))
def ref06_Reach.l19b (s0:HSt) (L49:List Bool) (rec263:List Int→Int→Option (List Int×HSt)) (L258:List Int) (x260:Int):Option (List Int×HSt):=(if (decide (x260<(L49.length:Int))) then (if (inR x260 L49.length) then (if (atB L49 x260) then bind1 (pushM L258 x260) fun L306=>ref06_Reach.j20 x260 rec263 L306 else ref06_Reach.j20 x260 rec263 L258) else none) else some (L258,s0))
def ref06_Reach.l19 (s0:HSt) (L49:List Bool):Nat→List Int→Int→Option (List Int×HSt)
  | 0=>fun _ _=>none
  | kI+1=>ref06_Reach.l19b s0 L49 (ref06_Reach.l19 s0 L49 kI)
def ref06_Reach.l11b (s0:HSt) (k:Nat) (rec53:List Int→List Bool→Option (List Int×HSt)) (L47:List Int) (L49:List Bool):Option (List Int×HSt):=(if (decide ((L47.length:Int) > 0)) then (if (inR (IntKind.i64.wrap ((L47.length:Int) - 1)) L47.length) then (if (leR (IntKind.i64.wrap ((L47.length:Int) - 1)) L47.length) then (if (!(isObj s0.a (atI L47 (IntKind.i64.wrap ((L47.length:Int) - 1))))) then ref06_Reach.j12 s0 k L47 L49 rec53 true else (if (inR (atI L47 (IntKind.i64.wrap ((L47.length:Int) - 1))) L49.length) then ref06_Reach.j12 s0 k L47 L49 rec53 (atB L49 (atI L47 (IntKind.i64.wrap ((L47.length:Int) - 1)))) else none)) else none) else none) else ref06_Reach.l19 s0 L49 k [] 0)
def ref06_Reach.l11 (s0:HSt) (k:Nat):Nat→List Int→List Bool→Option (List Int×HSt)
  | 0=>fun _ _=>none
  | kI+1=>ref06_Reach.l11b s0 k (ref06_Reach.l11 s0 k kI)
def ref06_Reach.m (k:Nat) (s0:HSt) (L1:List Int):Option (List Int×HSt):=(if (mkR (s0.a.c.length:Int)) then bind1 (appM [] L1) fun L33=>ref06_Reach.l11 s0 k k L33 (List.replicate (s0.a.c.length:Int).toNat false) else none)
set_option maxRecDepth 100000 in
set_option maxHeartbeats 1500000 in
theorem ref06_Reach.ok {w0 w:World} {F0:List Nat} {ps:List Piece} {k:Nat} {b0 ab0 sb0 g0 cb0:Nat} {s0:HSt} {v1:Value} {L1:List Int} {r0:List Int} {t0:HSt} (hS:St w0 F0 (RHeapP b0 ab0 sb0 g0 cb0 s0::RowP (v1) L1::ps) w) (hm:ref06_Reach.m k s0 L1=some (r0,t0)) :
    Calls Tryz.prog 48 #[nP b0 0,v1] w fun e w'=>∃ vr0,e=.returned (vr0)∧St w0 F0 (RHeapP b0 ab0 sb0 g0 cb0 t0::RowP (v1) L1::RowP vr0 r0::ps) w':=by
 refine ev_enterL 90 [nP b0 0,v1] Tryz.func48 rfl rfl (by simp) ?_
 intro a hF
 have hF0:Fr 90 a [(0,nP b0 0),(1,v1)]:=hF; clear hF
 unfold ref06_Reach.m at hm
 obtain ⟨hl4,p1,c2,rfl,hp3⟩:=St.shape hS 1 rfl
 refine wp_seq (wp_region_lit ?_)
 have hS6:St w0 F0 (RowP (.slice none 0 0) []::RHeapP b0 ab0 sb0 g0 cb0 s0::RowP (.slice p1 L1.length c2) L1::ps) w:=St.nil hS
 refine ev_runK 1 hF0 [0,1] (l':=[(0,nP b0 0),(1,.slice p1 L1.length c2)]) (w':=w) (by kernel_rfl) ?_
 intro a8 hF7; clear hF0
 refine wpList_nil ?_
 have hS9:=hS6.drop
 clear hS6
 refine thenN (wp_seq (wp_region_lit ?_))
 refine ev_runs 3 hF7 (l':=[(14,nP b0 0),(13,nP b0 0),(12,nP b0 0),(0,nP b0 0),(1,.slice p1 L1.length c2)]) (w':=w) (by kernel_rfl) ?_
 intro a11 hF10; clear hF7
 refine ev_one (nP ab0 0) w hF10 (by kernel_rfl) rfl (by kernel_rfl) (run_loadV rfl rfl (run_loadS rfl rfl (St.rhsee (k:=0) hS9 rfl).1)) (l':=[(15,nP ab0 0),(14,nP b0 0),(13,nP b0 0),(12,nP b0 0),(0,nP b0 0),(1,.slice p1 L1.length c2)]) (by kernel_rfl) ?_
 intro a13 hF12; clear hF10
 refine ev_runs 2 hF12 (l':=[(17,nP ab0 1),(16,nP ab0 0),(15,nP ab0 0),(14,nP b0 0),(13,nP b0 0),(12,nP b0 0),(0,nP b0 0),(1,.slice p1 L1.length c2)]) (w':=w) (by kernel_rfl) ?_
 intro a15 hF14; clear hF12
 refine ev_one (.slice (some ⟨g0,0,none⟩) s0.a.c.length s0.a.c.length) w hF14 (by kernel_rfl) rfl (by kernel_rfl) (run_loadV rfl rfl (run_loadS rfl rfl (St.rwarrK (k:=0) hS9 rfl))) (l':=[(18,.slice (some ⟨g0,0,none⟩) s0.a.c.length s0.a.c.length),(17,nP ab0 1),(16,nP ab0 0),(15,nP ab0 0),(14,nP b0 0),(13,nP b0 0),(12,nP b0 0),(0,nP b0 0),(1,.slice p1 L1.length c2)]) (by kernel_rfl) ?_
 intro a17 hF16; clear hF14
 refine ev_runs 1 hF16 (l':=[(19,nI ((s0.a.c.length:Int))),(18,.slice (some ⟨g0,0,none⟩) s0.a.c.length s0.a.c.length),(17,nP ab0 1),(16,nP ab0 0),(15,nP ab0 0),(14,nP b0 0),(13,nP b0 0),(12,nP b0 0),(0,nP b0 0),(1,.slice p1 L1.length c2)]) (w':=w) (by kernel_rfl) ?_
 intro a19 hF18; clear hF16
 obtain ⟨hc20,hm21⟩:=ifTE hm; clear hm
 refine ev_one (.slice (some ⟨w.heap.size,0,none⟩) ((s0.a.c.length:Int).toNat) (s0.a.c.length:Int).toNat) (w.alloc (.cells (madeCells kBo.z.cells ((s0.a.c.length:Int).toNat * kBo.m)) kBo.T)) hF18 (by kernel_rfl) rfl (by kernel_rfl) (run_makeX rfl rfl kBo.info rfl rfl kBo.sm (mkR_spec hc20).1 (mkR_spec hc20).2 _) (l':=[(20,.slice (some ⟨w.heap.size,0,none⟩) ((s0.a.c.length:Int).toNat) (s0.a.c.length:Int).toNat),(19,nI ((s0.a.c.length:Int))),(18,.slice (some ⟨g0,0,none⟩) s0.a.c.length s0.a.c.length),(17,nP ab0 1),(16,nP ab0 0),(15,nP ab0 0),(14,nP b0 0),(13,nP b0 0),(12,nP b0 0),(0,nP b0 0),(1,.slice p1 L1.length c2)]) (by kernel_rfl) ?_
 intro a24 hF23; clear hF18
 have hS25:St w0 F0 (BoolsP (.slice (some ⟨w.heap.size,0,none⟩) ((s0.a.c.length:Int).toNat) (s0.a.c.length:Int).toNat) (List.replicate (s0.a.c.length:Int).toNat false)::RHeapP b0 ab0 sb0 g0 cb0 s0::RowP (.slice p1 L1.length c2) L1::ps) (w.alloc (.cells (madeCells kBo.z.cells ((s0.a.c.length:Int).toNat * kBo.m)) kBo.T)):=St.madeB (s0.a.c.length:Int) (mkR_spec hc20).1 (mkR_spec hc20).2 hS9
 clear hS9
 refine ev_runK 1 hF23 [0,1,5] (l':=[(5,.slice (some ⟨w.heap.size,0,none⟩) ((s0.a.c.length:Int).toNat) (s0.a.c.length:Int).toNat),(0,nP b0 0),(1,.slice p1 L1.length c2)]) (w':=w.alloc (.cells (madeCells kBo.z.cells ((s0.a.c.length:Int).toNat * kBo.m)) kBo.T)) (by kernel_rfl) ?_
 intro a27 hF26; clear hF23
 refine wpList_nil (thenN (wp_seq (wp_region_lit ?_)))
 refine ev_runs 1 hF26 (l':=[(21,.slice p1 L1.length c2),(5,.slice (some ⟨w.heap.size,0,none⟩) ((s0.a.c.length:Int).toNat) (s0.a.c.length:Int).toNat),(0,nP b0 0),(1,.slice p1 L1.length c2)]) (w':=w.alloc (.cells (madeCells kBo.z.cells ((s0.a.c.length:Int).toNat * kBo.m)) kBo.T)) (by kernel_rfl) ?_
 intro a29 hF28; clear hF26
 have hS31:St w0 F0 (RowP (.slice none 0 0) []::BoolsP (.slice (some ⟨w.heap.size,0,none⟩) ((s0.a.c.length:Int).toNat) (s0.a.c.length:Int).toNat) (List.replicate (s0.a.c.length:Int).toNat false)::RHeapP b0 ab0 sb0 g0 cb0 s0::RowP (.slice p1 L1.length c2) L1::ps) (w.alloc (.cells (madeCells kBo.z.cells ((s0.a.c.length:Int).toNat * kBo.m)) kBo.T)):=St.nil hS25
 clear hS25
 have hS32:=hS31.pick3.pick1
 clear hS31
 obtain ⟨L33,hx34,hm35⟩:=bind1E hm21; clear hm21
 refine ev_appM 47 rfl 22 (.const (.slice none 0 0)) (.tmp 21) hF28 rfl rfl (by kernel_rfl) rfl rfl rfl rfl rfl hS32 hx34 ?_
 intro v36 w37 a38 hS39 hF40; clear hF28 hS32
 obtain ⟨hl44,p41,c42,rfl,hp43⟩:=St.shape hS39 0 rfl
 refine ev_runK 1 hF40 [0,5,6] (l':=[(6,.slice p41 L33.length c42),(5,.slice (some ⟨w.heap.size,0,none⟩) ((s0.a.c.length:Int).toNat) (s0.a.c.length:Int).toNat),(0,nP b0 0)]) (w':=w37) (by kernel_rfl) ?_
 intro a46 hF45; clear hF40
 refine wpList_nil (thenN (wp_seq ?_))
 refine wp_block ?_
 refine wp_loop_ghost (fun kI aI wI=>∃ (v48:Value) (L47:List Int) (v50:Value) (L49:List Bool),Fr 90 aI [(6,v48),(5,v50),(0,nP b0 0)]∧St w0 F0 (RowP (v48) L47::RowP (.slice p1 L1.length c2) L1::BoolsP (v50) L49::RHeapP b0 ab0 sb0 g0 cb0 s0::ps) wI∧ref06_Reach.l11 s0 k kI L47 L49=some (r0,t0)) k ⟨.slice p41 L33.length c42,L33,.slice (some ⟨w.heap.size,0,none⟩) ((s0.a.c.length:Int).toNat) (s0.a.c.length:Int).toNat,List.replicate (s0.a.c.length:Int).toNat false,hF45,hS39,hm35⟩ ?_
 rintro k51 a52 w53 ⟨v48,L47,v50,L49,hF54,hS55,hm56⟩
 clear hF45 hS39 hm35
 rcases k51 with _ | k51
 · cases hm56
 have hm57:ref06_Reach.l11b s0 k (ref06_Reach.l11 s0 k k51) L47 L49=some (r0,t0):=hm56
 clear hm56
 unfold ref06_Reach.l11b at hm57
 obtain ⟨hl61,p58,c59,rfl,hp60⟩:=St.shape hS55 0 rfl
 obtain ⟨hl65,p62,c63,rfl,hp64⟩:=St.shapeB hS55 2 rfl
 refine wp_seq (wp_seq (wp_region_lit ?_))
 refine ev_runK 3 hF54 [0,5,6,25] (l':=[(25,.bool (decide ((L47.length:Int) > 0))),(6,.slice p58 L47.length c59),(5,.slice p62 L49.length c63),(0,nP b0 0)]) (w':=w53) (by kernel_rfl) ?_
 intro a67 hF66; clear hF54
 refine wpList_nil (thenN ?_)
 cases hc68:(decide ((L47.length:Int) > 0))
 case true =>
  rw [hc68] at hF66
  have hm69:=ifYes hc68 hm57; clear hm57
  refine ev_condT hF66 rfl rfl ?_
  refine wp_skip ?_
  have hF70:=hF66.keep [0,5,6]
  clear hF66
  refine thenN ?_
  refine wp_block ?_
  refine wp_seq (wp_region_lit ?_)
  refine ev_runs 4 hF70 (l':=[(29,nI (IntKind.i64.wrap ((L47.length:Int) - 1))),(28,nI ((L47.length:Int))),(27,.slice p58 L47.length c59),(26,.slice p58 L47.length c59),(6,.slice p58 L47.length c59),(5,.slice p62 L49.length c63),(0,nP b0 0)]) (w':=w53) (by kernel_rfl) ?_
  intro a72 hF71; clear hF70
  obtain ⟨hc73,hm74⟩:=ifTE hm69; clear hm69
  obtain ⟨g75,rfl⟩:=hp60.resolve_left (by have:=inR_spec hc73; omega)
  refine ev_one (nP g75 ((IntKind.i64.wrap ((L47.length:Int) - 1)).toNat)) w53 hF71 (by kernel_rfl) rfl (by kernel_rfl) (run_idx rfl rfl rfl rfl rfl (inR_spec hc73).1 (inR_spec hc73).2 _) (l':=[(30,nP g75 ((IntKind.i64.wrap ((L47.length:Int) - 1)).toNat)),(29,nI (IntKind.i64.wrap ((L47.length:Int) - 1))),(28,nI ((L47.length:Int))),(27,nS g75 L47 c59),(26,nS g75 L47 c59),(6,nS g75 L47 c59),(5,.slice p62 L49.length c63),(0,nP b0 0)]) (by kernel_rfl) ?_
  intro a77 hF76; clear hF71
  refine ev_one (nI (atI L47 (IntKind.i64.wrap ((L47.length:Int) - 1)))) w53 hF76 (by kernel_rfl) rfl (by kernel_rfl) (run_load1 rfl rfl rfl (hS55.atI 0 rfl hc73)) (l':=[(31,nI (atI L47 (IntKind.i64.wrap ((L47.length:Int) - 1)))),(30,nP g75 ((IntKind.i64.wrap ((L47.length:Int) - 1)).toNat)),(29,nI (IntKind.i64.wrap ((L47.length:Int) - 1))),(28,nI ((L47.length:Int))),(27,nS g75 L47 c59),(26,nS g75 L47 c59),(6,nS g75 L47 c59),(5,.slice p62 L49.length c63),(0,nP b0 0)]) (by kernel_rfl) ?_
  intro a79 hF78; clear hF76
  refine ev_runK 1 hF78 [0,5,6,7] (l':=[(7,nI (atI L47 (IntKind.i64.wrap ((L47.length:Int) - 1)))),(6,nS g75 L47 c59),(5,.slice p62 L49.length c63),(0,nP b0 0)]) (w':=w53) (by kernel_rfl) ?_
  intro a81 hF80; clear hF78
  refine wpList_nil (thenN (wp_seq (wp_region_lit ?_)))
  refine ev_runs 4 hF80 (l':=[(35,nI (IntKind.i64.wrap ((L47.length:Int) - 1))),(34,nI ((L47.length:Int))),(33,nS g75 L47 c59),(32,nS g75 L47 c59),(7,nI (atI L47 (IntKind.i64.wrap ((L47.length:Int) - 1)))),(6,nS g75 L47 c59),(5,.slice p62 L49.length c63),(0,nP b0 0)]) (w':=w53) (by kernel_rfl) ?_
  intro a83 hF82; clear hF80
  obtain ⟨hc84,hm85⟩:=ifTE hm74; clear hm74
  refine ev_one (.slice (some ⟨g75,0,none⟩) ((IntKind.i64.wrap ((L47.length:Int) - 1)).toNat) c59) w53 hF82 (by kernel_rfl) rfl (by kernel_rfl) (run_sliceHi rfl rfl rfl rfl rfl (leR_spec hc84).1 (by have:=leR_spec hc84; have:=hS55.cap 0 rfl; omega) _) (l':=[(36,.slice (some ⟨g75,0,none⟩) ((IntKind.i64.wrap ((L47.length:Int) - 1)).toNat) c59),(35,nI (IntKind.i64.wrap ((L47.length:Int) - 1))),(34,nI ((L47.length:Int))),(33,nS g75 L47 c59),(32,nS g75 L47 c59),(7,nI (atI L47 (IntKind.i64.wrap ((L47.length:Int) - 1)))),(6,nS g75 L47 c59),(5,.slice p62 L49.length c63),(0,nP b0 0)]) (by kernel_rfl) ?_
  intro a87 hF86; clear hF82
  have hS88:=St.takeR hS55 (leR_nat hc84); clear hS55
  have hF89:=hF86.keep [0,5,7,34,35,36]; clear hF86
  refine ev_runK 1 hF89 [0,5,6,7] (l':=[(6,.slice (some ⟨g75,0,none⟩) ((IntKind.i64.wrap ((L47.length:Int) - 1)).toNat) c59),(7,nI (atI L47 (IntKind.i64.wrap ((L47.length:Int) - 1)))),(5,.slice p62 L49.length c63),(0,nP b0 0)]) (w':=w53) (by kernel_rfl) ?_
  intro a91 hF90; clear hF89
  refine wpList_nil (thenN (wp_seq (wp_seq ?_)))
  refine joinQ (fun aI wI=>∃ (y92:Bool),Fr 90 aI [(49,.bool (y92)),(6,.slice (some ⟨g75,0,none⟩) ((IntKind.i64.wrap ((L47.length:Int) - 1)).toNat) c59),(7,nI (atI L47 (IntKind.i64.wrap ((L47.length:Int) - 1)))),(5,.slice p62 L49.length c63),(0,nP b0 0)]∧St w0 F0 (RHeapP b0 ab0 sb0 g0 cb0 s0::RowP (.slice (some ⟨g75,0,none⟩) ((IntKind.i64.wrap ((L47.length:Int) - 1)).toNat) c59) (L47.take (IntKind.i64.wrap ((L47.length:Int) - 1)).toNat)::RowP (.slice p1 L1.length c2) L1::BoolsP (.slice p62 L49.length c63) L49::ps) wI∧ref06_Reach.j12 s0 k L47 L49 (ref06_Reach.l11 s0 k k51) y92=some (r0,t0)) ?_ ?_
  rotate_left
  · rintro a94 w95 ⟨y92,hF96,hS97,hm98⟩
    clear hF90 hS88 hm85
    unfold ref06_Reach.j12 at hm98
    refine thenN ?_
    cases hc100:(y92)
    case true =>
     rw [hc100] at hF96
     have hm101:=ifYes hc100 hm98; clear hm98
     refine ev_condT hF96 rfl rfl ?_
     refine wp_exit ?_
     refine thenE ?_
     refine blockE ?_
     have hF102:=hF96.keep [0,5,6]
     clear hF96
     have hS103:=hS97.pick3.pick3.pick3
     clear hS97
     exact thenN ⟨k51,Nat.lt_succ_self _,.slice (some ⟨g75,0,none⟩) ((IntKind.i64.wrap ((L47.length:Int) - 1)).toNat) c59,L47.take (IntKind.i64.wrap ((L47.length:Int) - 1)).toNat,.slice p62 L49.length c63,L49,hF102,hS103,hm101⟩
    rw [hc100] at hF96
    have hm104:=ifNot hc100 hm98; clear hm98
    refine ev_condF hF96 rfl rfl ?_
    refine wp_skip ?_
    have hF105:=hF96.keep [0,5,6,7]
    clear hF96
    refine thenN (wp_seq (wp_region_lit ?_))
    refine ev_runs 2 hF105 (l':=[(51,nI (atI L47 (IntKind.i64.wrap ((L47.length:Int) - 1)))),(50,.slice p62 L49.length c63),(6,.slice (some ⟨g75,0,none⟩) ((IntKind.i64.wrap ((L47.length:Int) - 1)).toNat) c59),(7,nI (atI L47 (IntKind.i64.wrap ((L47.length:Int) - 1)))),(5,.slice p62 L49.length c63),(0,nP b0 0)]) (w':=w95) (by kernel_rfl) ?_
    intro a107 hF106; clear hF105
    obtain ⟨hc108,hm109⟩:=ifTE hm104; clear hm104
    obtain ⟨g110,rfl⟩:=hp64.resolve_left (by have:=inR_spec hc108; omega)
    refine ev_one (nP g110 ((atI L47 (IntKind.i64.wrap ((L47.length:Int) - 1))).toNat)) w95 hF106 (by kernel_rfl) rfl (by kernel_rfl) (run_idx rfl rfl rfl rfl rfl (inR_spec hc108).1 (inR_spec hc108).2 _) (l':=[(52,nP g110 ((atI L47 (IntKind.i64.wrap ((L47.length:Int) - 1))).toNat)),(51,nI (atI L47 (IntKind.i64.wrap ((L47.length:Int) - 1)))),(50,.slice (some ⟨g110,0,none⟩) L49.length c63),(6,.slice (some ⟨g75,0,none⟩) ((IntKind.i64.wrap ((L47.length:Int) - 1)).toNat) c59),(7,nI (atI L47 (IntKind.i64.wrap ((L47.length:Int) - 1)))),(5,.slice (some ⟨g110,0,none⟩) L49.length c63),(0,nP b0 0)]) (by kernel_rfl) ?_
    intro a112 hF111; clear hF106
    have hS113:=hS97.pick3
    clear hS97
    refine ev_storeB (i:=(atI L47 (IntKind.i64.wrap ((L47.length:Int) - 1)))) (true) hF111 (by kernel_rfl) rfl rfl rfl rfl rfl hc108 hS113 (l':=[(52,nP g110 ((atI L47 (IntKind.i64.wrap ((L47.length:Int) - 1))).toNat)),(51,nI (atI L47 (IntKind.i64.wrap ((L47.length:Int) - 1)))),(50,.slice (some ⟨g110,0,none⟩) L49.length c63),(6,.slice (some ⟨g75,0,none⟩) ((IntKind.i64.wrap ((L47.length:Int) - 1)).toNat) c59),(7,nI (atI L47 (IntKind.i64.wrap ((L47.length:Int) - 1)))),(5,.slice (some ⟨g110,0,none⟩) L49.length c63),(0,nP b0 0)]) (by kernel_rfl) ?_
    intro w114 a115 hS116 hF117; clear hF111 hS113
    refine wpList_nil ?_
    have hF118:=hF117.keep [0,5,6,7]
    clear hF117
    refine thenN (wp_seq (wp_region_lit ?_))
    refine ev_runs 2 hF118 (l':=[(54,nI (atI L47 (IntKind.i64.wrap ((L47.length:Int) - 1)))),(53,nP b0 0),(6,.slice (some ⟨g75,0,none⟩) ((IntKind.i64.wrap ((L47.length:Int) - 1)).toNat) c59),(7,nI (atI L47 (IntKind.i64.wrap ((L47.length:Int) - 1)))),(5,.slice (some ⟨g110,0,none⟩) L49.length c63),(0,nP b0 0)]) (w':=w114) (by kernel_rfl) ?_
    intro a120 hF119; clear hF118
    have hS121:=hS116.pick1
    clear hS116
    refine ev_call 133 #[nP b0 0,nI (atI L47 (IntKind.i64.wrap ((L47.length:Int) - 1)))] hF119 rfl rfl (by kernel_rfl) rfl (by kernel_rfl) (fun w=>by kernel_rfl) ?_
    refine (q_words hS121).mono ?_
    rintro _ w122 ⟨z126,rfl,hS124⟩ a123 hF125; clear hF119 hS121
    obtain ⟨hl131,p128,c129,rfl,hp130⟩:=St.shape hS124 1 rfl
    refine ev_runK 1 hF125 [0,5,6,8] (l':=[(8,.slice p128 ((aWords s0.a (atI L47 (IntKind.i64.wrap ((L47.length:Int) - 1)))).length) c129),(6,.slice (some ⟨g75,0,none⟩) ((IntKind.i64.wrap ((L47.length:Int) - 1)).toNat) c59),(5,.slice (some ⟨g110,0,none⟩) L49.length c63),(0,nP b0 0)]) (w':=w122) (by kernel_rfl) ?_
    intro a133 hF132; clear hF125
    refine wpList_nil (thenN (wp_seq (wp_region_lit ?_)))
    refine ev_runs 1 hF132 (l':=[(9,nI 0),(8,.slice p128 ((aWords s0.a (atI L47 (IntKind.i64.wrap ((L47.length:Int) - 1)))).length) c129),(6,.slice (some ⟨g75,0,none⟩) ((IntKind.i64.wrap ((L47.length:Int) - 1)).toNat) c59),(5,.slice (some ⟨g110,0,none⟩) L49.length c63),(0,nP b0 0)]) (w':=w122) (by kernel_rfl) ?_
    intro a135 hF134; clear hF132
    refine wpList_nil (thenN ?_)
    refine wp_block ?_
    refine wp_loop_ghost (fun kI aI wI=>∃ (v137:Value) (L136:List Int) (x138:Int),Fr 90 aI [(9,nI x138),(8,.slice p128 ((aWords s0.a (atI L47 (IntKind.i64.wrap ((L47.length:Int) - 1)))).length) c129),(6,v137),(5,.slice (some ⟨g110,0,none⟩) L49.length c63),(0,nP b0 0)]∧St w0 F0 (RHeapP b0 ab0 sb0 g0 cb0 s0::RowP (.slice p128 ((aWords s0.a (atI L47 (IntKind.i64.wrap ((L47.length:Int) - 1)))).length) c129) (aWords s0.a (atI L47 (IntKind.i64.wrap ((L47.length:Int) - 1))))::BoolsP (.slice (some ⟨g110,0,none⟩) L49.length c63) (setX L49 (atI L47 (IntKind.i64.wrap ((L47.length:Int) - 1))) (true))::RowP (v137) L136::RowP (.slice p1 L1.length c2) L1::ps) wI∧ref06_Reach.l15 s0 L47 L49 (ref06_Reach.l11 s0 k k51) kI L136 x138=some (r0,t0)) k ⟨.slice (some ⟨g75,0,none⟩) ((IntKind.i64.wrap ((L47.length:Int) - 1)).toNat) c59,L47.take (IntKind.i64.wrap ((L47.length:Int) - 1)).toNat,0,hF134,hS124,hm109⟩ ?_
    rintro k139 a140 w141 ⟨v137,L136,x138,hF142,hS143,hm144⟩
    clear hF134 hS124 hm109
    rcases k139 with _ | k139
    · cases hm144
    have hm145:ref06_Reach.l15b s0 L47 L49 (ref06_Reach.l11 s0 k k51) (ref06_Reach.l15 s0 L47 L49 (ref06_Reach.l11 s0 k k51) k139) L136 x138=some (r0,t0):=hm144
    clear hm144
    unfold ref06_Reach.l15b at hm145
    obtain ⟨hl149,p146,c147,rfl,hp148⟩:=St.shape hS143 3 rfl
    refine wp_seq (wp_seq (wp_region_lit ?_))
    refine ev_runK 4 hF142 [0,5,6,8,9,59] (l':=[(59,.bool (decide (x138<((aWords s0.a (atI L47 (IntKind.i64.wrap ((L47.length:Int) - 1)))).length:Int)))),(9,nI x138),(8,.slice p128 ((aWords s0.a (atI L47 (IntKind.i64.wrap ((L47.length:Int) - 1)))).length) c129),(6,.slice p146 L136.length c147),(5,.slice (some ⟨g110,0,none⟩) L49.length c63),(0,nP b0 0)]) (w':=w141) (by kernel_rfl) ?_
    intro a151 hF150; clear hF142
    refine wpList_nil (thenN ?_)
    cases hc152:(decide (x138<((aWords s0.a (atI L47 (IntKind.i64.wrap ((L47.length:Int) - 1)))).length:Int)))
    case true =>
     rw [hc152] at hF150
     have hm153:=ifYes hc152 hm145; clear hm145
     refine ev_condT hF150 rfl rfl ?_
     refine wp_skip ?_
     have hF154:=hF150.keep [0,5,6,8,9]
     clear hF150
     refine thenN (wp_seq ?_)
     refine wp_block ?_
     refine wp_seq (wp_region_lit ?_)
     refine ev_runs 2 hF154 (l':=[(63,nI x138),(62,.slice p128 ((aWords s0.a (atI L47 (IntKind.i64.wrap ((L47.length:Int) - 1)))).length) c129),(9,nI x138),(8,.slice p128 ((aWords s0.a (atI L47 (IntKind.i64.wrap ((L47.length:Int) - 1)))).length) c129),(6,.slice p146 L136.length c147),(5,.slice (some ⟨g110,0,none⟩) L49.length c63),(0,nP b0 0)]) (w':=w141) (by kernel_rfl) ?_
     intro a156 hF155; clear hF154
     obtain ⟨hc157,hm158⟩:=ifTE hm153; clear hm153
     obtain ⟨g159,rfl⟩:=hp130.resolve_left (by have:=inR_spec hc157; omega)
     refine ev_one (nP g159 (x138.toNat)) w141 hF155 (by kernel_rfl) rfl (by kernel_rfl) (run_idx rfl rfl rfl rfl rfl (inR_spec hc157).1 (inR_spec hc157).2 _) (l':=[(64,nP g159 (x138.toNat)),(63,nI x138),(62,.slice (some ⟨g159,0,none⟩) ((aWords s0.a (atI L47 (IntKind.i64.wrap ((L47.length:Int) - 1)))).length) c129),(9,nI x138),(8,.slice (some ⟨g159,0,none⟩) ((aWords s0.a (atI L47 (IntKind.i64.wrap ((L47.length:Int) - 1)))).length) c129),(6,.slice p146 L136.length c147),(5,.slice (some ⟨g110,0,none⟩) L49.length c63),(0,nP b0 0)]) (by kernel_rfl) ?_
     intro a161 hF160; clear hF155
     refine ev_one (nI (atI (aWords s0.a (atI L47 (IntKind.i64.wrap ((L47.length:Int) - 1)))) x138)) w141 hF160 (by kernel_rfl) rfl (by kernel_rfl) (run_load1 rfl rfl rfl (hS143.atI 1 rfl hc157)) (l':=[(65,nI (atI (aWords s0.a (atI L47 (IntKind.i64.wrap ((L47.length:Int) - 1)))) x138)),(64,nP g159 (x138.toNat)),(63,nI x138),(62,.slice (some ⟨g159,0,none⟩) ((aWords s0.a (atI L47 (IntKind.i64.wrap ((L47.length:Int) - 1)))).length) c129),(9,nI x138),(8,.slice (some ⟨g159,0,none⟩) ((aWords s0.a (atI L47 (IntKind.i64.wrap ((L47.length:Int) - 1)))).length) c129),(6,.slice p146 L136.length c147),(5,.slice (some ⟨g110,0,none⟩) L49.length c63),(0,nP b0 0)]) (by kernel_rfl) ?_
     intro a163 hF162; clear hF160
     refine ev_call 42 #[nI (atI (aWords s0.a (atI L47 (IntKind.i64.wrap ((L47.length:Int) - 1)))) x138)] hF162 rfl rfl (by kernel_rfl) rfl (by kernel_rfl) (fun w=>by kernel_rfl) ?_
     refine (p_rIsPtr hS143).mono ?_
     rintro _ w164 ⟨rfl,hS166⟩ a165 hF167; clear hF162 hS143
     refine wpList_nil ?_
     have hF168:=hF167.keep [0,5,6,8,9,66]
     clear hF167
     refine thenN ?_
     refine joinQ (fun aI wI=>∃ (v170:Value) (L169:List Int),Fr 90 aI [(9,nI x138),(8,.slice (some ⟨g159,0,none⟩) ((aWords s0.a (atI L47 (IntKind.i64.wrap ((L47.length:Int) - 1)))).length) c129),(6,v170),(5,.slice (some ⟨g110,0,none⟩) L49.length c63),(0,nP b0 0)]∧St w0 F0 (RHeapP b0 ab0 sb0 g0 cb0 s0::RowP (.slice (some ⟨g159,0,none⟩) ((aWords s0.a (atI L47 (IntKind.i64.wrap ((L47.length:Int) - 1)))).length) c129) (aWords s0.a (atI L47 (IntKind.i64.wrap ((L47.length:Int) - 1))))::BoolsP (.slice (some ⟨g110,0,none⟩) L49.length c63) (setX L49 (atI L47 (IntKind.i64.wrap ((L47.length:Int) - 1))) (true))::RowP (v170) L169::RowP (.slice p1 L1.length c2) L1::ps) wI∧ref06_Reach.j16 x138 (ref06_Reach.l15 s0 L47 L49 (ref06_Reach.l11 s0 k k51) k139) L169=some (r0,t0)) ?_ ?_
     rotate_left
     · rintro a172 w173 ⟨v170,L169,hF174,hS175,hm176⟩
       clear hF168 hS166 hm158
       unfold ref06_Reach.j16 at hm176
       obtain ⟨hl181,p178,c179,rfl,hp180⟩:=St.shape hS175 3 rfl
       refine blockN ?_
       refine thenN (wp_region_lit ?_)
       refine ev_runK 3 hF174 [0,5,6,8,9] (l':=[(9,nI (IntKind.i64.wrap (x138+1))),(8,.slice (some ⟨g159,0,none⟩) ((aWords s0.a (atI L47 (IntKind.i64.wrap ((L47.length:Int) - 1)))).length) c129),(6,.slice p178 L169.length c179),(5,.slice (some ⟨g110,0,none⟩) L49.length c63),(0,nP b0 0)]) (w':=w173) (by kernel_rfl) ?_
       intro a183 hF182; clear hF174
       refine wpList_nil ?_
       exact thenN ⟨k139,Nat.lt_succ_self _,.slice p178 L169.length c179,L169,IntKind.i64.wrap (x138+1),hF182,hS175,hm176⟩
     · skip
       cases hc184:(vIsPtr (atI (aWords s0.a (atI L47 (IntKind.i64.wrap ((L47.length:Int) - 1)))) x138))
       case true =>
        rw [hc184] at hF168
        have hm185:=ifYes hc184 hm158; clear hm158
        refine ev_condT hF168 rfl rfl ?_
        refine wp_region_lit ?_
        refine ev_runs 3 hF168 (l':=[(69,nI x138),(68,.slice (some ⟨g159,0,none⟩) ((aWords s0.a (atI L47 (IntKind.i64.wrap ((L47.length:Int) - 1)))).length) c129),(67,.slice p146 L136.length c147),(66,.bool true),(9,nI x138),(8,.slice (some ⟨g159,0,none⟩) ((aWords s0.a (atI L47 (IntKind.i64.wrap ((L47.length:Int) - 1)))).length) c129),(6,.slice p146 L136.length c147),(5,.slice (some ⟨g110,0,none⟩) L49.length c63),(0,nP b0 0)]) (w':=w164) (by kernel_rfl) ?_
        intro a187 hF186; clear hF168
        refine ev_one (nP g159 (x138.toNat)) w164 hF186 (by kernel_rfl) rfl (by kernel_rfl) (run_idx rfl rfl rfl rfl rfl (inR_spec hc157).1 (inR_spec hc157).2 _) (l':=[(70,nP g159 (x138.toNat)),(69,nI x138),(68,.slice (some ⟨g159,0,none⟩) ((aWords s0.a (atI L47 (IntKind.i64.wrap ((L47.length:Int) - 1)))).length) c129),(67,.slice p146 L136.length c147),(66,.bool true),(9,nI x138),(8,.slice (some ⟨g159,0,none⟩) ((aWords s0.a (atI L47 (IntKind.i64.wrap ((L47.length:Int) - 1)))).length) c129),(6,.slice p146 L136.length c147),(5,.slice (some ⟨g110,0,none⟩) L49.length c63),(0,nP b0 0)]) (by kernel_rfl) ?_
        intro a189 hF188; clear hF186
        refine ev_one (nI (atI (aWords s0.a (atI L47 (IntKind.i64.wrap ((L47.length:Int) - 1)))) x138)) w164 hF188 (by kernel_rfl) rfl (by kernel_rfl) (run_load1 rfl rfl rfl (hS166.atI 1 rfl hc157)) (l':=[(71,nI (atI (aWords s0.a (atI L47 (IntKind.i64.wrap ((L47.length:Int) - 1)))) x138)),(70,nP g159 (x138.toNat)),(69,nI x138),(68,.slice (some ⟨g159,0,none⟩) ((aWords s0.a (atI L47 (IntKind.i64.wrap ((L47.length:Int) - 1)))).length) c129),(67,.slice p146 L136.length c147),(66,.bool true),(9,nI x138),(8,.slice (some ⟨g159,0,none⟩) ((aWords s0.a (atI L47 (IntKind.i64.wrap ((L47.length:Int) - 1)))).length) c129),(6,.slice p146 L136.length c147),(5,.slice (some ⟨g110,0,none⟩) L49.length c63),(0,nP b0 0)]) (by kernel_rfl) ?_
        intro a191 hF190; clear hF188
        refine ev_call 40 #[nI (atI (aWords s0.a (atI L47 (IntKind.i64.wrap ((L47.length:Int) - 1)))) x138)] hF190 rfl rfl (by kernel_rfl) rfl (by kernel_rfl) (fun w=>by kernel_rfl) ?_
        obtain ⟨x192,hx193,hm194⟩:=bind1E hm185; clear hm185
        refine (p_rAt hS166 hx193).mono ?_
        rintro _ w195 ⟨rfl,hS197⟩ a196 hF198; clear hF190 hS166
        refine ev_runs 1 hF198 (l':=[(73,.slice (some ⟨w195.heap.size,0,none⟩) 1 1),(72,nI x192),(71,nI (atI (aWords s0.a (atI L47 (IntKind.i64.wrap ((L47.length:Int) - 1)))) x138)),(70,nP g159 (x138.toNat)),(69,nI x138),(68,.slice (some ⟨g159,0,none⟩) ((aWords s0.a (atI L47 (IntKind.i64.wrap ((L47.length:Int) - 1)))).length) c129),(67,.slice p146 L136.length c147),(66,.bool true),(9,nI x138),(8,.slice (some ⟨g159,0,none⟩) ((aWords s0.a (atI L47 (IntKind.i64.wrap ((L47.length:Int) - 1)))).length) c129),(6,.slice p146 L136.length c147),(5,.slice (some ⟨g110,0,none⟩) L49.length c63),(0,nP b0 0)]) (w':=w195.alloc (.cells #[nI x192] 3)) (by kernel_rfl) ?_
        intro a200 hF199; clear hF198
        have hS201:=hS197.pick3
        clear hS197
        obtain ⟨L202,hx203,hm204⟩:=bind1E hm194; clear hm194
        refine ev_push 74 (.tmp 67) (.tmp 73) hF199 rfl rfl rfl rfl rfl rfl rfl rfl hS201 hx203 ?_
        intro g205 c206 w207 a208 hS209 hF210; clear hF199 hS201
        refine ev_runK 1 hF210 [0,5,6,8,9] (l':=[(6,nS g205 L202 c206),(9,nI x138),(8,.slice (some ⟨g159,0,none⟩) ((aWords s0.a (atI L47 (IntKind.i64.wrap ((L47.length:Int) - 1)))).length) c129),(5,.slice (some ⟨g110,0,none⟩) L49.length c63),(0,nP b0 0)]) (w':=w207) (by kernel_rfl) ?_
        intro a212 hF211; clear hF210
        refine wpList_nil ?_
        have hF213:Fr 90 a212 [(9,nI x138),(8,.slice (some ⟨g159,0,none⟩) ((aWords s0.a (atI L47 (IntKind.i64.wrap ((L47.length:Int) - 1)))).length) c129),(6,nS g205 L202 c206),(5,.slice (some ⟨g110,0,none⟩) L49.length c63),(0,nP b0 0)]:=Fr.re hF211 (by kernel_rfl)
        clear hF211
        have hS214:=hS209.pick4.pick1.pick4.pick4.pick4
        clear hS209
        exact thenN ⟨nS g205 L202 c206,L202,hF213,hS214,hm204⟩
       rw [hc184] at hF168
       have hm215:=ifNot hc184 hm158; clear hm158
       refine ev_condF hF168 rfl rfl ?_
       refine wp_skip ?_
       have hF216:=hF168.keep [0,5,6,8,9]
       clear hF168
       exact thenN ⟨.slice p146 L136.length c147,L136,hF216,hS166,hm215⟩
    rw [hc152] at hF150
    have hm217:=ifNot hc152 hm145; clear hm145
    refine ev_condF hF150 rfl rfl ?_
    refine wp_exit ?_
    refine thenE ?_
    refine thenE ?_
    refine blockE ?_
    refine blockN ?_
    have hF218:=hF150.keep [0,5,6]
    clear hF150
    have hS219:=hS143.pick1.drop
    clear hS143
    have hS220:=hS219.pick1.pick3.pick3
    clear hS219
    exact thenN ⟨k51,Nat.lt_succ_self _,.slice p146 L136.length c147,L136,.slice (some ⟨g110,0,none⟩) L49.length c63,setX L49 (atI L47 (IntKind.i64.wrap ((L47.length:Int) - 1))) (true),hF218,hS220,hm217⟩
  · skip
    refine wp_region_lit ?_
    refine ev_runs 3 hF90 (l':=[(39,nP b0 0),(38,nP b0 0),(37,nP b0 0),(6,.slice (some ⟨g75,0,none⟩) ((IntKind.i64.wrap ((L47.length:Int) - 1)).toNat) c59),(7,nI (atI L47 (IntKind.i64.wrap ((L47.length:Int) - 1)))),(5,.slice p62 L49.length c63),(0,nP b0 0)]) (w':=w53) (by kernel_rfl) ?_
    intro a222 hF221; clear hF90
    refine ev_one (nP ab0 0) w53 hF221 (by kernel_rfl) rfl (by kernel_rfl) (run_loadV rfl rfl (run_loadS rfl rfl (St.rhsee (k:=3) hS88 rfl).1)) (l':=[(40,nP ab0 0),(39,nP b0 0),(38,nP b0 0),(37,nP b0 0),(6,.slice (some ⟨g75,0,none⟩) ((IntKind.i64.wrap ((L47.length:Int) - 1)).toNat) c59),(7,nI (atI L47 (IntKind.i64.wrap ((L47.length:Int) - 1)))),(5,.slice p62 L49.length c63),(0,nP b0 0)]) (by kernel_rfl) ?_
    intro a224 hF223; clear hF221
    refine ev_runs 1 hF223 (l':=[(41,nI (atI L47 (IntKind.i64.wrap ((L47.length:Int) - 1)))),(40,nP ab0 0),(39,nP b0 0),(38,nP b0 0),(37,nP b0 0),(6,.slice (some ⟨g75,0,none⟩) ((IntKind.i64.wrap ((L47.length:Int) - 1)).toNat) c59),(7,nI (atI L47 (IntKind.i64.wrap ((L47.length:Int) - 1)))),(5,.slice p62 L49.length c63),(0,nP b0 0)]) (w':=w53) (by kernel_rfl) ?_
    intro a226 hF225; clear hF223
    have hS227:=hS88.pick3
    clear hS88
    refine ev_call 132 #[nP ab0 0,nI (atI L47 (IntKind.i64.wrap ((L47.length:Int) - 1)))] hF225 rfl rfl (by kernel_rfl) rfl (by kernel_rfl) (fun w=>by kernel_rfl) ?_
    refine (q_is hS227).mono ?_
    rintro _ w228 ⟨rfl,hS230⟩ a229 hF231; clear hF225 hS227
    refine ev_runs 2 hF231 (l':=[(44,.bool (!(isObj s0.a (atI L47 (IntKind.i64.wrap ((L47.length:Int) - 1)))))),(43,.bool (!(isObj s0.a (atI L47 (IntKind.i64.wrap ((L47.length:Int) - 1)))))),(42,.bool (isObj s0.a (atI L47 (IntKind.i64.wrap ((L47.length:Int) - 1))))),(41,nI (atI L47 (IntKind.i64.wrap ((L47.length:Int) - 1)))),(40,nP ab0 0),(39,nP b0 0),(38,nP b0 0),(37,nP b0 0),(6,.slice (some ⟨g75,0,none⟩) ((IntKind.i64.wrap ((L47.length:Int) - 1)).toNat) c59),(7,nI (atI L47 (IntKind.i64.wrap ((L47.length:Int) - 1)))),(5,.slice p62 L49.length c63),(0,nP b0 0)]) (w':=w228) (by kernel_rfl) ?_
    intro a233 hF232; clear hF231
    cases hc234:(!(isObj s0.a (atI L47 (IntKind.i64.wrap ((L47.length:Int) - 1)))))
    case true =>
     rw [hc234] at hF232
     have hm235:=ifYes hc234 hm85; clear hm85
     refine ev_runK 5 hF232 [0,5,6,7,49] (l':=[(49,.bool true),(6,.slice (some ⟨g75,0,none⟩) ((IntKind.i64.wrap ((L47.length:Int) - 1)).toNat) c59),(7,nI (atI L47 (IntKind.i64.wrap ((L47.length:Int) - 1)))),(5,.slice p62 L49.length c63),(0,nP b0 0)]) (w':=w228) (by kernel_rfl) ?_
     intro a237 hF236; clear hF232
     refine wpList_nil ?_
     exact thenN ⟨true,hF236,hS230,hm235⟩
    rw [hc234] at hF232
    have hm238:=ifNot hc234 hm85; clear hm85
    refine ev_runs 2 hF232 (l':=[(46,nI (atI L47 (IntKind.i64.wrap ((L47.length:Int) - 1)))),(45,.slice p62 L49.length c63),(44,.bool false),(43,.bool false),(42,.bool (isObj s0.a (atI L47 (IntKind.i64.wrap ((L47.length:Int) - 1))))),(41,nI (atI L47 (IntKind.i64.wrap ((L47.length:Int) - 1)))),(40,nP ab0 0),(39,nP b0 0),(38,nP b0 0),(37,nP b0 0),(6,.slice (some ⟨g75,0,none⟩) ((IntKind.i64.wrap ((L47.length:Int) - 1)).toNat) c59),(7,nI (atI L47 (IntKind.i64.wrap ((L47.length:Int) - 1)))),(5,.slice p62 L49.length c63),(0,nP b0 0)]) (w':=w228) (by kernel_rfl) ?_
    intro a240 hF239; clear hF232
    obtain ⟨hc241,hm242⟩:=ifTE hm238; clear hm238
    obtain ⟨g243,rfl⟩:=hp64.resolve_left (by have:=inR_spec hc241; omega)
    refine ev_one (nP g243 ((atI L47 (IntKind.i64.wrap ((L47.length:Int) - 1))).toNat)) w228 hF239 (by kernel_rfl) rfl (by kernel_rfl) (run_idx rfl rfl rfl rfl rfl (inR_spec hc241).1 (inR_spec hc241).2 _) (l':=[(47,nP g243 ((atI L47 (IntKind.i64.wrap ((L47.length:Int) - 1))).toNat)),(46,nI (atI L47 (IntKind.i64.wrap ((L47.length:Int) - 1)))),(45,.slice (some ⟨g243,0,none⟩) L49.length c63),(44,.bool false),(43,.bool false),(42,.bool (isObj s0.a (atI L47 (IntKind.i64.wrap ((L47.length:Int) - 1))))),(41,nI (atI L47 (IntKind.i64.wrap ((L47.length:Int) - 1)))),(40,nP ab0 0),(39,nP b0 0),(38,nP b0 0),(37,nP b0 0),(6,.slice (some ⟨g75,0,none⟩) ((IntKind.i64.wrap ((L47.length:Int) - 1)).toNat) c59),(7,nI (atI L47 (IntKind.i64.wrap ((L47.length:Int) - 1)))),(5,.slice (some ⟨g243,0,none⟩) L49.length c63),(0,nP b0 0)]) (by kernel_rfl) ?_
    intro a245 hF244; clear hF239
    refine ev_one (.bool (atB L49 (atI L47 (IntKind.i64.wrap ((L47.length:Int) - 1))))) w228 hF244 (by kernel_rfl) rfl (by kernel_rfl) (run_loadB rfl rfl rfl (hS230.atB 3 rfl hc241)) (l':=[(48,.bool (atB L49 (atI L47 (IntKind.i64.wrap ((L47.length:Int) - 1))))),(47,nP g243 ((atI L47 (IntKind.i64.wrap ((L47.length:Int) - 1))).toNat)),(46,nI (atI L47 (IntKind.i64.wrap ((L47.length:Int) - 1)))),(45,.slice (some ⟨g243,0,none⟩) L49.length c63),(44,.bool false),(43,.bool false),(42,.bool (isObj s0.a (atI L47 (IntKind.i64.wrap ((L47.length:Int) - 1))))),(41,nI (atI L47 (IntKind.i64.wrap ((L47.length:Int) - 1)))),(40,nP ab0 0),(39,nP b0 0),(38,nP b0 0),(37,nP b0 0),(6,.slice (some ⟨g75,0,none⟩) ((IntKind.i64.wrap ((L47.length:Int) - 1)).toNat) c59),(7,nI (atI L47 (IntKind.i64.wrap ((L47.length:Int) - 1)))),(5,.slice (some ⟨g243,0,none⟩) L49.length c63),(0,nP b0 0)]) (by kernel_rfl) ?_
    intro a247 hF246; clear hF244
    refine ev_runK 1 hF246 [0,5,6,7,49] (l':=[(49,.bool (atB L49 (atI L47 (IntKind.i64.wrap ((L47.length:Int) - 1))))),(6,.slice (some ⟨g75,0,none⟩) ((IntKind.i64.wrap ((L47.length:Int) - 1)).toNat) c59),(7,nI (atI L47 (IntKind.i64.wrap ((L47.length:Int) - 1)))),(5,.slice (some ⟨g243,0,none⟩) L49.length c63),(0,nP b0 0)]) (w':=w228) (by kernel_rfl) ?_
    intro a249 hF248; clear hF246
    refine wpList_nil ?_
    exact thenN ⟨atB L49 (atI L47 (IntKind.i64.wrap ((L47.length:Int) - 1))),hF248,hS230,hm242⟩
 rw [hc68] at hF66
 have hm250:=ifNot hc68 hm57; clear hm57
 refine ev_condF hF66 rfl rfl ?_
 refine wp_exit ?_
 refine thenE ?_
 refine thenE ?_
 refine blockE ?_
 refine thenN (wp_seq (wp_region_lit ?_))
 have hS252:St w0 F0 (RowP (.slice none 0 0) []::RowP (.slice p58 L47.length c59) L47::RowP (.slice p1 L1.length c2) L1::BoolsP (.slice p62 L49.length c63) L49::RHeapP b0 ab0 sb0 g0 cb0 s0::ps) w53:=St.nil hS55
 clear hS55
 refine ev_runK 1 hF66 [5,10] (l':=[(10,.slice none 0 0),(5,.slice p62 L49.length c63)]) (w':=w53) (by kernel_rfl) ?_
 intro a254 hF253; clear hF66
 refine wpList_nil ?_
 have hS255:=hS252.pick1.drop
 clear hS252
 refine thenN (wp_seq (wp_seq (wp_region_lit ?_)))
 refine ev_runs 1 hF253 (l':=[(11,nI 0),(10,.slice none 0 0),(5,.slice p62 L49.length c63)]) (w':=w53) (by kernel_rfl) ?_
 intro a257 hF256; clear hF253
 refine wpList_nil (thenN ?_)
 refine wp_block ?_
 refine wp_loop_ghost (fun kI aI wI=>∃ (v259:Value) (L258:List Int) (x260:Int),Fr 90 aI [(11,nI x260),(10,v259),(5,.slice p62 L49.length c63)]∧St w0 F0 (RowP (v259) L258::RowP (.slice p1 L1.length c2) L1::BoolsP (.slice p62 L49.length c63) L49::RHeapP b0 ab0 sb0 g0 cb0 s0::ps) wI∧ref06_Reach.l19 s0 L49 kI L258 x260=some (r0,t0)) k ⟨.slice none 0 0,[],0,hF256,hS255,hm250⟩ ?_
 rintro k261 a262 w263 ⟨v259,L258,x260,hF264,hS265,hm266⟩
 clear hF256 hS255 hm250
 rcases k261 with _ | k261
 · cases hm266
 have hm267:ref06_Reach.l19b s0 L49 (ref06_Reach.l19 s0 L49 k261) L258 x260=some (r0,t0):=hm266
 clear hm266
 unfold ref06_Reach.l19b at hm267
 obtain ⟨hl271,p268,c269,rfl,hp270⟩:=St.shape hS265 0 rfl
 refine wp_seq (wp_seq (wp_region_lit ?_))
 refine ev_runK 4 hF264 [5,10,11,78] (l':=[(78,.bool (decide (x260<(L49.length:Int)))),(11,nI x260),(10,.slice p268 L258.length c269),(5,.slice p62 L49.length c63)]) (w':=w263) (by kernel_rfl) ?_
 intro a273 hF272; clear hF264
 refine wpList_nil (thenN ?_)
 cases hc274:(decide (x260<(L49.length:Int)))
 case true =>
  rw [hc274] at hF272
  have hm275:=ifYes hc274 hm267; clear hm267
  refine ev_condT hF272 rfl rfl ?_
  refine wp_skip ?_
  have hF276:=hF272.keep [5,10,11]
  clear hF272
  refine thenN (wp_seq ?_)
  refine wp_block ?_
  refine wp_seq (wp_region_lit ?_)
  refine ev_runs 2 hF276 (l':=[(82,nI x260),(81,.slice p62 L49.length c63),(11,nI x260),(10,.slice p268 L258.length c269),(5,.slice p62 L49.length c63)]) (w':=w263) (by kernel_rfl) ?_
  intro a278 hF277; clear hF276
  obtain ⟨hc279,hm280⟩:=ifTE hm275; clear hm275
  obtain ⟨g281,rfl⟩:=hp64.resolve_left (by have:=inR_spec hc279; omega)
  refine ev_one (nP g281 (x260.toNat)) w263 hF277 (by kernel_rfl) rfl (by kernel_rfl) (run_idx rfl rfl rfl rfl rfl (inR_spec hc279).1 (inR_spec hc279).2 _) (l':=[(83,nP g281 (x260.toNat)),(82,nI x260),(81,.slice (some ⟨g281,0,none⟩) L49.length c63),(11,nI x260),(10,.slice p268 L258.length c269),(5,.slice (some ⟨g281,0,none⟩) L49.length c63)]) (by kernel_rfl) ?_
  intro a283 hF282; clear hF277
  refine ev_one (.bool (atB L49 x260)) w263 hF282 (by kernel_rfl) rfl (by kernel_rfl) (run_loadB rfl rfl rfl (hS265.atB 2 rfl hc279)) (l':=[(84,.bool (atB L49 x260)),(83,nP g281 (x260.toNat)),(82,nI x260),(81,.slice (some ⟨g281,0,none⟩) L49.length c63),(11,nI x260),(10,.slice p268 L258.length c269),(5,.slice (some ⟨g281,0,none⟩) L49.length c63)]) (by kernel_rfl) ?_
  intro a285 hF284; clear hF282
  refine wpList_nil ?_
  have hF286:=hF284.keep [5,10,11,84]
  clear hF284
  refine thenN ?_
  refine joinQ (fun aI wI=>∃ (v288:Value) (L287:List Int),Fr 90 aI [(11,nI x260),(10,v288),(5,.slice (some ⟨g281,0,none⟩) L49.length c63)]∧St w0 F0 (RowP (v288) L287::RowP (.slice p1 L1.length c2) L1::BoolsP (.slice (some ⟨g281,0,none⟩) L49.length c63) L49::RHeapP b0 ab0 sb0 g0 cb0 s0::ps) wI∧ref06_Reach.j20 x260 (ref06_Reach.l19 s0 L49 k261) L287=some (r0,t0)) ?_ ?_
  rotate_left
  · rintro a290 w291 ⟨v288,L287,hF292,hS293,hm294⟩
    clear hF286 hS265 hm280
    unfold ref06_Reach.j20 at hm294
    obtain ⟨hl299,p296,c297,rfl,hp298⟩:=St.shape hS293 0 rfl
    refine blockN ?_
    refine thenN (wp_region_lit ?_)
    refine ev_runK 3 hF292 [5,10,11] (l':=[(11,nI (IntKind.i64.wrap (x260+1))),(10,.slice p296 L287.length c297),(5,.slice (some ⟨g281,0,none⟩) L49.length c63)]) (w':=w291) (by kernel_rfl) ?_
    intro a301 hF300; clear hF292
    refine wpList_nil ?_
    exact thenN ⟨k261,Nat.lt_succ_self _,.slice p296 L287.length c297,L287,IntKind.i64.wrap (x260+1),hF300,hS293,hm294⟩
  · skip
    cases hc302:(atB L49 x260)
    case true =>
     rw [hc302] at hF286
     have hm303:=ifYes hc302 hm280; clear hm280
     refine ev_condT hF286 rfl rfl ?_
     refine wp_region_lit ?_
     refine ev_runs 3 hF286 (l':=[(87,.slice (some ⟨w263.heap.size,0,none⟩) 1 1),(86,nI x260),(85,.slice p268 L258.length c269),(84,.bool true),(11,nI x260),(10,.slice p268 L258.length c269),(5,.slice (some ⟨g281,0,none⟩) L49.length c63)]) (w':=w263.alloc (.cells #[nI x260] 3)) (by kernel_rfl) ?_
     intro a305 hF304; clear hF286
     obtain ⟨L306,hx307,hm308⟩:=bind1E hm303; clear hm303
     refine ev_push 88 (.tmp 85) (.tmp 87) hF304 rfl rfl rfl rfl rfl rfl rfl rfl hS265 hx307 ?_
     intro g309 c310 w311 a312 hS313 hF314; clear hF304 hS265
     refine ev_runK 1 hF314 [5,10,11] (l':=[(10,nS g309 L306 c310),(11,nI x260),(5,.slice (some ⟨g281,0,none⟩) L49.length c63)]) (w':=w311) (by kernel_rfl) ?_
     intro a316 hF315; clear hF314
     refine wpList_nil ?_
     have hF317:Fr 90 a316 [(11,nI x260),(10,nS g309 L306 c310),(5,.slice (some ⟨g281,0,none⟩) L49.length c63)]:=Fr.re hF315 (by kernel_rfl)
     clear hF315
     exact thenN ⟨nS g309 L306 c310,L306,hF317,hS313,hm308⟩
    rw [hc302] at hF286
    have hm318:=ifNot hc302 hm280; clear hm280
    refine ev_condF hF286 rfl rfl ?_
    refine wp_skip ?_
    have hF319:=hF286.keep [5,10,11]
    clear hF286
    exact thenN ⟨.slice p268 L258.length c269,L258,hF319,hS265,hm318⟩
 rw [hc274] at hF272
 have hm320:=ifNot hc274 hm267; clear hm267
 refine ev_condF hF272 rfl rfl ?_
 refine wp_exit ?_
 refine thenE ?_
 refine thenE ?_
 refine blockE ?_
 refine thenN (wp_seq (wp_region_lit ?_))
 refine ev_runK 2 hF272 [4] (l':=[(4,.slice p268 L258.length c269)]) (w':=w263) (by kernel_rfl) ?_
 intro a322 hF321; clear hF272
 refine wpList_nil ?_
 have hS323:=hS265.pick2.drop
 clear hS265
 refine thenN ?_
 refine wp_ret ?_
 have hS324:=hS323.pick1.pick2
 clear hS323
 simp only [Option.some.injEq,Prod.mk.injEq] at hm320
 obtain ⟨rfl,rfl⟩:=hm320
 refine ev_ret hF321 [4] (.slice p268 L258.length c269) rfl rfl rfl ?_
 exact ⟨_,rfl,hS324⟩
def ref06_ReachK.j16 (x132:Int) (rec135:List Int→Int→Option (List Int×HSt)) (L163:List Int):Option (List Int×HSt):=rec135 L163 (IntKind.i64.wrap (x132+1))
def ref06_ReachK.l15b (s0:HSt) (L41:List Int) (L43:List Bool) (rec47:List Int→List Bool→Option (List Int×HSt)) (rec135:List Int→Int→Option (List Int×HSt)) (L130:List Int) (x132:Int):Option (List Int×HSt):=(if (decide (x132<((aWords s0.a (atI L41 (IntKind.i64.wrap ((L41.length:Int) - 1)))).length:Int))) then (if (inR x132 (aWords s0.a (atI L41 (IntKind.i64.wrap ((L41.length:Int) - 1)))).length) then (if (vIsPtr (atI (aWords s0.a (atI L41 (IntKind.i64.wrap ((L41.length:Int) - 1)))) x132)) then bind1 (pAt (atI (aWords s0.a (atI L41 (IntKind.i64.wrap ((L41.length:Int) - 1)))) x132)) fun x186=>bind1 (pushM L130 x186) fun L196=>ref06_ReachK.j16 x132 rec135 L196 else ref06_ReachK.j16 x132 rec135 L130) else none) else rec47 L130 (setX L43 (atI L41 (IntKind.i64.wrap ((L41.length:Int) - 1))) (true)))
def ref06_ReachK.l15 (s0:HSt) (L41:List Int) (L43:List Bool) (rec47:List Int→List Bool→Option (List Int×HSt)):Nat→List Int→Int→Option (List Int×HSt)
  | 0=>fun _ _=>none
  | kI+1=>ref06_ReachK.l15b s0 L41 L43 rec47 (ref06_ReachK.l15 s0 L41 L43 rec47 kI)
def ref06_ReachK.j12 (s0:HSt) (k:Nat) (L41:List Int) (L43:List Bool) (rec47:List Int→List Bool→Option (List Int×HSt)) (y86:Bool):Option (List Int×HSt):=(if (y86) then rec47 (L41.take (IntKind.i64.wrap ((L41.length:Int) - 1)).toNat) L43 else (if (inR (atI L41 (IntKind.i64.wrap ((L41.length:Int) - 1))) L43.length) then ref06_ReachK.l15 s0 L41 L43 rec47 k (L41.take (IntKind.i64.wrap ((L41.length:Int) - 1)).toNat) 0 else none))
def ref06_ReachK.j20 (x254:Int) (rec257:List Int→Int→Option (List Int×HSt)) (L281:List Int):Option (List Int×HSt):=rec257 L281 (IntKind.i64.wrap (x254+1))
def ref06_ReachK.l19b (s0:HSt) (L43:List Bool) (rec257:List Int→Int→Option (List Int×HSt)) (L252:List Int) (x254:Int):Option (List Int×HSt):=(if (decide (x254<(L43.length:Int))) then (if (inR x254 L43.length) then (if (atB L43 x254) then bind1 (pushM L252 x254) fun L300=>ref06_ReachK.j20 x254 rec257 L300 else ref06_ReachK.j20 x254 rec257 L252) else none) else some (L252,s0))
def ref06_ReachK.l19 (s0:HSt) (L43:List Bool):Nat→List Int→Int→Option (List Int×HSt)
  | 0=>fun _ _=>none
  | kI+1=>ref06_ReachK.l19b s0 L43 (ref06_ReachK.l19 s0 L43 kI)
def ref06_ReachK.l11b (s0:HSt) (k:Nat) (rec47:List Int→List Bool→Option (List Int×HSt)) (L41:List Int) (L43:List Bool):Option (List Int×HSt):=(if (decide ((L41.length:Int) > 0)) then (if (inR (IntKind.i64.wrap ((L41.length:Int) - 1)) L41.length) then (if (leR (IntKind.i64.wrap ((L41.length:Int) - 1)) L41.length) then (if (!(isObj s0.a (atI L41 (IntKind.i64.wrap ((L41.length:Int) - 1))))) then ref06_ReachK.j12 s0 k L41 L43 rec47 true else (if (inR (atI L41 (IntKind.i64.wrap ((L41.length:Int) - 1))) L43.length) then ref06_ReachK.j12 s0 k L41 L43 rec47 (atB L43 (atI L41 (IntKind.i64.wrap ((L41.length:Int) - 1)))) else none)) else none) else none) else ref06_ReachK.l19 s0 L43 k [] 0)
def ref06_ReachK.l11 (s0:HSt) (k:Nat):Nat→List Int→List Bool→Option (List Int×HSt)
  | 0=>fun _ _=>none
  | kI+1=>ref06_ReachK.l11b s0 k (ref06_ReachK.l11 s0 k kI)
def ref06_ReachK.m (k:Nat) (s0:HSt) (K1:List Int):Option (List Int×HSt):=(if (mkR (s0.a.c.length:Int)) then bind1 (appM [] K1) fun L27=>ref06_ReachK.l11 s0 k k L27 (List.replicate (s0.a.c.length:Int).toNat false) else none)
set_option maxRecDepth 100000 in
set_option maxHeartbeats 1500000 in
theorem ref06_ReachK.ok {w0 w:World} {ps:List Piece} {k:Nat} {b0 ab0 sb0 g0 cb0:Nat} {s0:HSt} {pa1:Option Addr} {ca1:Nat} {K1:List Int} (hA1:ArgInts w0 (.slice pa1 K1.length ca1) K1) {r0:List Int} {t0:HSt} (hS:St w0 [] (RHeapP b0 ab0 sb0 g0 cb0 s0::ps) w) (hm:ref06_ReachK.m k s0 K1=some (r0,t0)) :
    Calls Tryz.prog 48 #[nP b0 0,.slice pa1 K1.length ca1] w fun e w'=>∃ vr0,e=.returned (vr0)∧St w0 [] (RHeapP b0 ab0 sb0 g0 cb0 t0::RowP vr0 r0::ps) w':=by
 refine ev_enterL 90 [nP b0 0,.slice pa1 K1.length ca1] Tryz.func48 rfl rfl (by simp) ?_
 intro a hF
 have hF0:Fr 90 a [(0,nP b0 0),(1,.slice pa1 K1.length ca1)]:=hF; clear hF
 unfold ref06_ReachK.m at hm
 refine wp_seq (wp_region_lit ?_)
 have hS2:St w0 [] (RowP (.slice none 0 0) []::RHeapP b0 ab0 sb0 g0 cb0 s0::ps) w:=St.nil hS
 refine ev_runK 1 hF0 [0,1] (l':=[(0,nP b0 0),(1,.slice pa1 K1.length ca1)]) (w':=w) (by kernel_rfl) ?_
 intro a4 hF3; clear hF0
 refine wpList_nil ?_
 have hS5:=hS2.drop
 clear hS2
 refine thenN (wp_seq (wp_region_lit ?_))
 refine ev_runs 3 hF3 (l':=[(14,nP b0 0),(13,nP b0 0),(12,nP b0 0),(0,nP b0 0),(1,.slice pa1 K1.length ca1)]) (w':=w) (by kernel_rfl) ?_
 intro a7 hF6; clear hF3
 refine ev_one (nP ab0 0) w hF6 (by kernel_rfl) rfl (by kernel_rfl) (run_loadV rfl rfl (run_loadS rfl rfl (St.rhsee (k:=0) hS5 rfl).1)) (l':=[(15,nP ab0 0),(14,nP b0 0),(13,nP b0 0),(12,nP b0 0),(0,nP b0 0),(1,.slice pa1 K1.length ca1)]) (by kernel_rfl) ?_
 intro a9 hF8; clear hF6
 refine ev_runs 2 hF8 (l':=[(17,nP ab0 1),(16,nP ab0 0),(15,nP ab0 0),(14,nP b0 0),(13,nP b0 0),(12,nP b0 0),(0,nP b0 0),(1,.slice pa1 K1.length ca1)]) (w':=w) (by kernel_rfl) ?_
 intro a11 hF10; clear hF8
 refine ev_one (.slice (some ⟨g0,0,none⟩) s0.a.c.length s0.a.c.length) w hF10 (by kernel_rfl) rfl (by kernel_rfl) (run_loadV rfl rfl (run_loadS rfl rfl (St.rwarrK (k:=0) hS5 rfl))) (l':=[(18,.slice (some ⟨g0,0,none⟩) s0.a.c.length s0.a.c.length),(17,nP ab0 1),(16,nP ab0 0),(15,nP ab0 0),(14,nP b0 0),(13,nP b0 0),(12,nP b0 0),(0,nP b0 0),(1,.slice pa1 K1.length ca1)]) (by kernel_rfl) ?_
 intro a13 hF12; clear hF10
 refine ev_runs 1 hF12 (l':=[(19,nI ((s0.a.c.length:Int))),(18,.slice (some ⟨g0,0,none⟩) s0.a.c.length s0.a.c.length),(17,nP ab0 1),(16,nP ab0 0),(15,nP ab0 0),(14,nP b0 0),(13,nP b0 0),(12,nP b0 0),(0,nP b0 0),(1,.slice pa1 K1.length ca1)]) (w':=w) (by kernel_rfl) ?_
 intro a15 hF14; clear hF12
 obtain ⟨hc16,hm17⟩:=ifTE hm; clear hm
 refine ev_one (.slice (some ⟨w.heap.size,0,none⟩) ((s0.a.c.length:Int).toNat) (s0.a.c.length:Int).toNat) (w.alloc (.cells (madeCells kBo.z.cells ((s0.a.c.length:Int).toNat * kBo.m)) kBo.T)) hF14 (by kernel_rfl) rfl (by kernel_rfl) (run_makeX rfl rfl kBo.info rfl rfl kBo.sm (mkR_spec hc16).1 (mkR_spec hc16).2 _) (l':=[(20,.slice (some ⟨w.heap.size,0,none⟩) ((s0.a.c.length:Int).toNat) (s0.a.c.length:Int).toNat),(19,nI ((s0.a.c.length:Int))),(18,.slice (some ⟨g0,0,none⟩) s0.a.c.length s0.a.c.length),(17,nP ab0 1),(16,nP ab0 0),(15,nP ab0 0),(14,nP b0 0),(13,nP b0 0),(12,nP b0 0),(0,nP b0 0),(1,.slice pa1 K1.length ca1)]) (by kernel_rfl) ?_
 intro a20 hF19; clear hF14
 have hS21:St w0 [] (BoolsP (.slice (some ⟨w.heap.size,0,none⟩) ((s0.a.c.length:Int).toNat) (s0.a.c.length:Int).toNat) (List.replicate (s0.a.c.length:Int).toNat false)::RHeapP b0 ab0 sb0 g0 cb0 s0::ps) (w.alloc (.cells (madeCells kBo.z.cells ((s0.a.c.length:Int).toNat * kBo.m)) kBo.T)):=St.madeB (s0.a.c.length:Int) (mkR_spec hc16).1 (mkR_spec hc16).2 hS5
 clear hS5
 refine ev_runK 1 hF19 [0,1,5] (l':=[(5,.slice (some ⟨w.heap.size,0,none⟩) ((s0.a.c.length:Int).toNat) (s0.a.c.length:Int).toNat),(0,nP b0 0),(1,.slice pa1 K1.length ca1)]) (w':=w.alloc (.cells (madeCells kBo.z.cells ((s0.a.c.length:Int).toNat * kBo.m)) kBo.T)) (by kernel_rfl) ?_
 intro a23 hF22; clear hF19
 refine wpList_nil (thenN (wp_seq (wp_region_lit ?_)))
 refine ev_runs 1 hF22 (l':=[(21,.slice pa1 K1.length ca1),(5,.slice (some ⟨w.heap.size,0,none⟩) ((s0.a.c.length:Int).toNat) (s0.a.c.length:Int).toNat),(0,nP b0 0),(1,.slice pa1 K1.length ca1)]) (w':=w.alloc (.cells (madeCells kBo.z.cells ((s0.a.c.length:Int).toNat * kBo.m)) kBo.T)) (by kernel_rfl) ?_
 intro a25 hF24; clear hF22
 obtain ⟨L27,hx28,hm29⟩:=bind1E hm17; clear hm17
 refine ev_appK 47 rfl 22 (.const (.slice none 0 0)) (.tmp 21) hF24 rfl rfl (by kernel_rfl) rfl rfl rfl rfl rfl hS21 hA1 hx28 ?_
 intro v30 w31 a32 hS33 hF34; clear hF24 hS21
 obtain ⟨hl38,p35,c36,rfl,hp37⟩:=St.shape hS33 0 rfl
 refine ev_runK 1 hF34 [0,5,6] (l':=[(6,.slice p35 L27.length c36),(5,.slice (some ⟨w.heap.size,0,none⟩) ((s0.a.c.length:Int).toNat) (s0.a.c.length:Int).toNat),(0,nP b0 0)]) (w':=w31) (by kernel_rfl) ?_
 intro a40 hF39; clear hF34
 refine wpList_nil (thenN (wp_seq ?_))
 refine wp_block ?_
 refine wp_loop_ghost (fun kI aI wI=>∃ (v42:Value) (L41:List Int) (v44:Value) (L43:List Bool),Fr 90 aI [(6,v42),(5,v44),(0,nP b0 0)]∧St w0 [] (RowP (v42) L41::BoolsP (v44) L43::RHeapP b0 ab0 sb0 g0 cb0 s0::ps) wI∧ref06_ReachK.l11 s0 k kI L41 L43=some (r0,t0)) k ⟨.slice p35 L27.length c36,L27,.slice (some ⟨w.heap.size,0,none⟩) ((s0.a.c.length:Int).toNat) (s0.a.c.length:Int).toNat,List.replicate (s0.a.c.length:Int).toNat false,hF39,hS33,hm29⟩ ?_
 rintro k45 a46 w47 ⟨v42,L41,v44,L43,hF48,hS49,hm50⟩
 clear hF39 hS33 hm29
 rcases k45 with _ | k45
 · cases hm50
 have hm51:ref06_ReachK.l11b s0 k (ref06_ReachK.l11 s0 k k45) L41 L43=some (r0,t0):=hm50
 clear hm50
 unfold ref06_ReachK.l11b at hm51
 obtain ⟨hl55,p52,c53,rfl,hp54⟩:=St.shape hS49 0 rfl
 obtain ⟨hl59,p56,c57,rfl,hp58⟩:=St.shapeB hS49 1 rfl
 refine wp_seq (wp_seq (wp_region_lit ?_))
 refine ev_runK 3 hF48 [0,5,6,25] (l':=[(25,.bool (decide ((L41.length:Int) > 0))),(6,.slice p52 L41.length c53),(5,.slice p56 L43.length c57),(0,nP b0 0)]) (w':=w47) (by kernel_rfl) ?_
 intro a61 hF60; clear hF48
 refine wpList_nil (thenN ?_)
 cases hc62:(decide ((L41.length:Int) > 0))
 case true =>
  rw [hc62] at hF60
  have hm63:=ifYes hc62 hm51; clear hm51
  refine ev_condT hF60 rfl rfl ?_
  refine wp_skip ?_
  have hF64:=hF60.keep [0,5,6]
  clear hF60
  refine thenN ?_
  refine wp_block ?_
  refine wp_seq (wp_region_lit ?_)
  refine ev_runs 4 hF64 (l':=[(29,nI (IntKind.i64.wrap ((L41.length:Int) - 1))),(28,nI ((L41.length:Int))),(27,.slice p52 L41.length c53),(26,.slice p52 L41.length c53),(6,.slice p52 L41.length c53),(5,.slice p56 L43.length c57),(0,nP b0 0)]) (w':=w47) (by kernel_rfl) ?_
  intro a66 hF65; clear hF64
  obtain ⟨hc67,hm68⟩:=ifTE hm63; clear hm63
  obtain ⟨g69,rfl⟩:=hp54.resolve_left (by have:=inR_spec hc67; omega)
  refine ev_one (nP g69 ((IntKind.i64.wrap ((L41.length:Int) - 1)).toNat)) w47 hF65 (by kernel_rfl) rfl (by kernel_rfl) (run_idx rfl rfl rfl rfl rfl (inR_spec hc67).1 (inR_spec hc67).2 _) (l':=[(30,nP g69 ((IntKind.i64.wrap ((L41.length:Int) - 1)).toNat)),(29,nI (IntKind.i64.wrap ((L41.length:Int) - 1))),(28,nI ((L41.length:Int))),(27,nS g69 L41 c53),(26,nS g69 L41 c53),(6,nS g69 L41 c53),(5,.slice p56 L43.length c57),(0,nP b0 0)]) (by kernel_rfl) ?_
  intro a71 hF70; clear hF65
  refine ev_one (nI (atI L41 (IntKind.i64.wrap ((L41.length:Int) - 1)))) w47 hF70 (by kernel_rfl) rfl (by kernel_rfl) (run_load1 rfl rfl rfl (hS49.atI 0 rfl hc67)) (l':=[(31,nI (atI L41 (IntKind.i64.wrap ((L41.length:Int) - 1)))),(30,nP g69 ((IntKind.i64.wrap ((L41.length:Int) - 1)).toNat)),(29,nI (IntKind.i64.wrap ((L41.length:Int) - 1))),(28,nI ((L41.length:Int))),(27,nS g69 L41 c53),(26,nS g69 L41 c53),(6,nS g69 L41 c53),(5,.slice p56 L43.length c57),(0,nP b0 0)]) (by kernel_rfl) ?_
  intro a73 hF72; clear hF70
  refine ev_runK 1 hF72 [0,5,6,7] (l':=[(7,nI (atI L41 (IntKind.i64.wrap ((L41.length:Int) - 1)))),(6,nS g69 L41 c53),(5,.slice p56 L43.length c57),(0,nP b0 0)]) (w':=w47) (by kernel_rfl) ?_
  intro a75 hF74; clear hF72
  refine wpList_nil (thenN (wp_seq (wp_region_lit ?_)))
  refine ev_runs 4 hF74 (l':=[(35,nI (IntKind.i64.wrap ((L41.length:Int) - 1))),(34,nI ((L41.length:Int))),(33,nS g69 L41 c53),(32,nS g69 L41 c53),(7,nI (atI L41 (IntKind.i64.wrap ((L41.length:Int) - 1)))),(6,nS g69 L41 c53),(5,.slice p56 L43.length c57),(0,nP b0 0)]) (w':=w47) (by kernel_rfl) ?_
  intro a77 hF76; clear hF74
  obtain ⟨hc78,hm79⟩:=ifTE hm68; clear hm68
  refine ev_one (.slice (some ⟨g69,0,none⟩) ((IntKind.i64.wrap ((L41.length:Int) - 1)).toNat) c53) w47 hF76 (by kernel_rfl) rfl (by kernel_rfl) (run_sliceHi rfl rfl rfl rfl rfl (leR_spec hc78).1 (by have:=leR_spec hc78; have:=hS49.cap 0 rfl; omega) _) (l':=[(36,.slice (some ⟨g69,0,none⟩) ((IntKind.i64.wrap ((L41.length:Int) - 1)).toNat) c53),(35,nI (IntKind.i64.wrap ((L41.length:Int) - 1))),(34,nI ((L41.length:Int))),(33,nS g69 L41 c53),(32,nS g69 L41 c53),(7,nI (atI L41 (IntKind.i64.wrap ((L41.length:Int) - 1)))),(6,nS g69 L41 c53),(5,.slice p56 L43.length c57),(0,nP b0 0)]) (by kernel_rfl) ?_
  intro a81 hF80; clear hF76
  have hS82:=St.takeR hS49 (leR_nat hc78); clear hS49
  have hF83:=hF80.keep [0,5,7,34,35,36]; clear hF80
  refine ev_runK 1 hF83 [0,5,6,7] (l':=[(6,.slice (some ⟨g69,0,none⟩) ((IntKind.i64.wrap ((L41.length:Int) - 1)).toNat) c53),(7,nI (atI L41 (IntKind.i64.wrap ((L41.length:Int) - 1)))),(5,.slice p56 L43.length c57),(0,nP b0 0)]) (w':=w47) (by kernel_rfl) ?_
  intro a85 hF84; clear hF83
  refine wpList_nil (thenN (wp_seq (wp_seq ?_)))
  refine joinQ (fun aI wI=>∃ (y86:Bool),Fr 90 aI [(49,.bool (y86)),(6,.slice (some ⟨g69,0,none⟩) ((IntKind.i64.wrap ((L41.length:Int) - 1)).toNat) c53),(7,nI (atI L41 (IntKind.i64.wrap ((L41.length:Int) - 1)))),(5,.slice p56 L43.length c57),(0,nP b0 0)]∧St w0 [] (RHeapP b0 ab0 sb0 g0 cb0 s0::RowP (.slice (some ⟨g69,0,none⟩) ((IntKind.i64.wrap ((L41.length:Int) - 1)).toNat) c53) (L41.take (IntKind.i64.wrap ((L41.length:Int) - 1)).toNat)::BoolsP (.slice p56 L43.length c57) L43::ps) wI∧ref06_ReachK.j12 s0 k L41 L43 (ref06_ReachK.l11 s0 k k45) y86=some (r0,t0)) ?_ ?_
  rotate_left
  · rintro a88 w89 ⟨y86,hF90,hS91,hm92⟩
    clear hF84 hS82 hm79
    unfold ref06_ReachK.j12 at hm92
    refine thenN ?_
    cases hc94:(y86)
    case true =>
     rw [hc94] at hF90
     have hm95:=ifYes hc94 hm92; clear hm92
     refine ev_condT hF90 rfl rfl ?_
     refine wp_exit ?_
     refine thenE ?_
     refine blockE ?_
     have hF96:=hF90.keep [0,5,6]
     clear hF90
     have hS97:=hS91.pick2.pick2
     clear hS91
     exact thenN ⟨k45,Nat.lt_succ_self _,.slice (some ⟨g69,0,none⟩) ((IntKind.i64.wrap ((L41.length:Int) - 1)).toNat) c53,L41.take (IntKind.i64.wrap ((L41.length:Int) - 1)).toNat,.slice p56 L43.length c57,L43,hF96,hS97,hm95⟩
    rw [hc94] at hF90
    have hm98:=ifNot hc94 hm92; clear hm92
    refine ev_condF hF90 rfl rfl ?_
    refine wp_skip ?_
    have hF99:=hF90.keep [0,5,6,7]
    clear hF90
    refine thenN (wp_seq (wp_region_lit ?_))
    refine ev_runs 2 hF99 (l':=[(51,nI (atI L41 (IntKind.i64.wrap ((L41.length:Int) - 1)))),(50,.slice p56 L43.length c57),(6,.slice (some ⟨g69,0,none⟩) ((IntKind.i64.wrap ((L41.length:Int) - 1)).toNat) c53),(7,nI (atI L41 (IntKind.i64.wrap ((L41.length:Int) - 1)))),(5,.slice p56 L43.length c57),(0,nP b0 0)]) (w':=w89) (by kernel_rfl) ?_
    intro a101 hF100; clear hF99
    obtain ⟨hc102,hm103⟩:=ifTE hm98; clear hm98
    obtain ⟨g104,rfl⟩:=hp58.resolve_left (by have:=inR_spec hc102; omega)
    refine ev_one (nP g104 ((atI L41 (IntKind.i64.wrap ((L41.length:Int) - 1))).toNat)) w89 hF100 (by kernel_rfl) rfl (by kernel_rfl) (run_idx rfl rfl rfl rfl rfl (inR_spec hc102).1 (inR_spec hc102).2 _) (l':=[(52,nP g104 ((atI L41 (IntKind.i64.wrap ((L41.length:Int) - 1))).toNat)),(51,nI (atI L41 (IntKind.i64.wrap ((L41.length:Int) - 1)))),(50,.slice (some ⟨g104,0,none⟩) L43.length c57),(6,.slice (some ⟨g69,0,none⟩) ((IntKind.i64.wrap ((L41.length:Int) - 1)).toNat) c53),(7,nI (atI L41 (IntKind.i64.wrap ((L41.length:Int) - 1)))),(5,.slice (some ⟨g104,0,none⟩) L43.length c57),(0,nP b0 0)]) (by kernel_rfl) ?_
    intro a106 hF105; clear hF100
    have hS107:=hS91.pick2
    clear hS91
    refine ev_storeB (i:=(atI L41 (IntKind.i64.wrap ((L41.length:Int) - 1)))) (true) hF105 (by kernel_rfl) rfl rfl rfl rfl rfl hc102 hS107 (l':=[(52,nP g104 ((atI L41 (IntKind.i64.wrap ((L41.length:Int) - 1))).toNat)),(51,nI (atI L41 (IntKind.i64.wrap ((L41.length:Int) - 1)))),(50,.slice (some ⟨g104,0,none⟩) L43.length c57),(6,.slice (some ⟨g69,0,none⟩) ((IntKind.i64.wrap ((L41.length:Int) - 1)).toNat) c53),(7,nI (atI L41 (IntKind.i64.wrap ((L41.length:Int) - 1)))),(5,.slice (some ⟨g104,0,none⟩) L43.length c57),(0,nP b0 0)]) (by kernel_rfl) ?_
    intro w108 a109 hS110 hF111; clear hF105 hS107
    refine wpList_nil ?_
    have hF112:=hF111.keep [0,5,6,7]
    clear hF111
    refine thenN (wp_seq (wp_region_lit ?_))
    refine ev_runs 2 hF112 (l':=[(54,nI (atI L41 (IntKind.i64.wrap ((L41.length:Int) - 1)))),(53,nP b0 0),(6,.slice (some ⟨g69,0,none⟩) ((IntKind.i64.wrap ((L41.length:Int) - 1)).toNat) c53),(7,nI (atI L41 (IntKind.i64.wrap ((L41.length:Int) - 1)))),(5,.slice (some ⟨g104,0,none⟩) L43.length c57),(0,nP b0 0)]) (w':=w108) (by kernel_rfl) ?_
    intro a114 hF113; clear hF112
    have hS115:=hS110.pick1
    clear hS110
    refine ev_call 133 #[nP b0 0,nI (atI L41 (IntKind.i64.wrap ((L41.length:Int) - 1)))] hF113 rfl rfl (by kernel_rfl) rfl (by kernel_rfl) (fun w=>by kernel_rfl) ?_
    refine (q_words hS115).mono ?_
    rintro _ w116 ⟨z120,rfl,hS118⟩ a117 hF119; clear hF113 hS115
    obtain ⟨hl125,p122,c123,rfl,hp124⟩:=St.shape hS118 1 rfl
    refine ev_runK 1 hF119 [0,5,6,8] (l':=[(8,.slice p122 ((aWords s0.a (atI L41 (IntKind.i64.wrap ((L41.length:Int) - 1)))).length) c123),(6,.slice (some ⟨g69,0,none⟩) ((IntKind.i64.wrap ((L41.length:Int) - 1)).toNat) c53),(5,.slice (some ⟨g104,0,none⟩) L43.length c57),(0,nP b0 0)]) (w':=w116) (by kernel_rfl) ?_
    intro a127 hF126; clear hF119
    refine wpList_nil (thenN (wp_seq (wp_region_lit ?_)))
    refine ev_runs 1 hF126 (l':=[(9,nI 0),(8,.slice p122 ((aWords s0.a (atI L41 (IntKind.i64.wrap ((L41.length:Int) - 1)))).length) c123),(6,.slice (some ⟨g69,0,none⟩) ((IntKind.i64.wrap ((L41.length:Int) - 1)).toNat) c53),(5,.slice (some ⟨g104,0,none⟩) L43.length c57),(0,nP b0 0)]) (w':=w116) (by kernel_rfl) ?_
    intro a129 hF128; clear hF126
    refine wpList_nil (thenN ?_)
    refine wp_block ?_
    refine wp_loop_ghost (fun kI aI wI=>∃ (v131:Value) (L130:List Int) (x132:Int),Fr 90 aI [(9,nI x132),(8,.slice p122 ((aWords s0.a (atI L41 (IntKind.i64.wrap ((L41.length:Int) - 1)))).length) c123),(6,v131),(5,.slice (some ⟨g104,0,none⟩) L43.length c57),(0,nP b0 0)]∧St w0 [] (RHeapP b0 ab0 sb0 g0 cb0 s0::RowP (.slice p122 ((aWords s0.a (atI L41 (IntKind.i64.wrap ((L41.length:Int) - 1)))).length) c123) (aWords s0.a (atI L41 (IntKind.i64.wrap ((L41.length:Int) - 1))))::BoolsP (.slice (some ⟨g104,0,none⟩) L43.length c57) (setX L43 (atI L41 (IntKind.i64.wrap ((L41.length:Int) - 1))) (true))::RowP (v131) L130::ps) wI∧ref06_ReachK.l15 s0 L41 L43 (ref06_ReachK.l11 s0 k k45) kI L130 x132=some (r0,t0)) k ⟨.slice (some ⟨g69,0,none⟩) ((IntKind.i64.wrap ((L41.length:Int) - 1)).toNat) c53,L41.take (IntKind.i64.wrap ((L41.length:Int) - 1)).toNat,0,hF128,hS118,hm103⟩ ?_
    rintro k133 a134 w135 ⟨v131,L130,x132,hF136,hS137,hm138⟩
    clear hF128 hS118 hm103
    rcases k133 with _ | k133
    · cases hm138
    have hm139:ref06_ReachK.l15b s0 L41 L43 (ref06_ReachK.l11 s0 k k45) (ref06_ReachK.l15 s0 L41 L43 (ref06_ReachK.l11 s0 k k45) k133) L130 x132=some (r0,t0):=hm138
    clear hm138
    unfold ref06_ReachK.l15b at hm139
    obtain ⟨hl143,p140,c141,rfl,hp142⟩:=St.shape hS137 3 rfl
    refine wp_seq (wp_seq (wp_region_lit ?_))
    refine ev_runK 4 hF136 [0,5,6,8,9,59] (l':=[(59,.bool (decide (x132<((aWords s0.a (atI L41 (IntKind.i64.wrap ((L41.length:Int) - 1)))).length:Int)))),(9,nI x132),(8,.slice p122 ((aWords s0.a (atI L41 (IntKind.i64.wrap ((L41.length:Int) - 1)))).length) c123),(6,.slice p140 L130.length c141),(5,.slice (some ⟨g104,0,none⟩) L43.length c57),(0,nP b0 0)]) (w':=w135) (by kernel_rfl) ?_
    intro a145 hF144; clear hF136
    refine wpList_nil (thenN ?_)
    cases hc146:(decide (x132<((aWords s0.a (atI L41 (IntKind.i64.wrap ((L41.length:Int) - 1)))).length:Int)))
    case true =>
     rw [hc146] at hF144
     have hm147:=ifYes hc146 hm139; clear hm139
     refine ev_condT hF144 rfl rfl ?_
     refine wp_skip ?_
     have hF148:=hF144.keep [0,5,6,8,9]
     clear hF144
     refine thenN (wp_seq ?_)
     refine wp_block ?_
     refine wp_seq (wp_region_lit ?_)
     refine ev_runs 2 hF148 (l':=[(63,nI x132),(62,.slice p122 ((aWords s0.a (atI L41 (IntKind.i64.wrap ((L41.length:Int) - 1)))).length) c123),(9,nI x132),(8,.slice p122 ((aWords s0.a (atI L41 (IntKind.i64.wrap ((L41.length:Int) - 1)))).length) c123),(6,.slice p140 L130.length c141),(5,.slice (some ⟨g104,0,none⟩) L43.length c57),(0,nP b0 0)]) (w':=w135) (by kernel_rfl) ?_
     intro a150 hF149; clear hF148
     obtain ⟨hc151,hm152⟩:=ifTE hm147; clear hm147
     obtain ⟨g153,rfl⟩:=hp124.resolve_left (by have:=inR_spec hc151; omega)
     refine ev_one (nP g153 (x132.toNat)) w135 hF149 (by kernel_rfl) rfl (by kernel_rfl) (run_idx rfl rfl rfl rfl rfl (inR_spec hc151).1 (inR_spec hc151).2 _) (l':=[(64,nP g153 (x132.toNat)),(63,nI x132),(62,.slice (some ⟨g153,0,none⟩) ((aWords s0.a (atI L41 (IntKind.i64.wrap ((L41.length:Int) - 1)))).length) c123),(9,nI x132),(8,.slice (some ⟨g153,0,none⟩) ((aWords s0.a (atI L41 (IntKind.i64.wrap ((L41.length:Int) - 1)))).length) c123),(6,.slice p140 L130.length c141),(5,.slice (some ⟨g104,0,none⟩) L43.length c57),(0,nP b0 0)]) (by kernel_rfl) ?_
     intro a155 hF154; clear hF149
     refine ev_one (nI (atI (aWords s0.a (atI L41 (IntKind.i64.wrap ((L41.length:Int) - 1)))) x132)) w135 hF154 (by kernel_rfl) rfl (by kernel_rfl) (run_load1 rfl rfl rfl (hS137.atI 1 rfl hc151)) (l':=[(65,nI (atI (aWords s0.a (atI L41 (IntKind.i64.wrap ((L41.length:Int) - 1)))) x132)),(64,nP g153 (x132.toNat)),(63,nI x132),(62,.slice (some ⟨g153,0,none⟩) ((aWords s0.a (atI L41 (IntKind.i64.wrap ((L41.length:Int) - 1)))).length) c123),(9,nI x132),(8,.slice (some ⟨g153,0,none⟩) ((aWords s0.a (atI L41 (IntKind.i64.wrap ((L41.length:Int) - 1)))).length) c123),(6,.slice p140 L130.length c141),(5,.slice (some ⟨g104,0,none⟩) L43.length c57),(0,nP b0 0)]) (by kernel_rfl) ?_
     intro a157 hF156; clear hF154
     refine ev_call 42 #[nI (atI (aWords s0.a (atI L41 (IntKind.i64.wrap ((L41.length:Int) - 1)))) x132)] hF156 rfl rfl (by kernel_rfl) rfl (by kernel_rfl) (fun w=>by kernel_rfl) ?_
     refine (p_rIsPtr hS137).mono ?_
     rintro _ w158 ⟨rfl,hS160⟩ a159 hF161; clear hF156 hS137
     refine wpList_nil ?_
     have hF162:=hF161.keep [0,5,6,8,9,66]
     clear hF161
     refine thenN ?_
     refine joinQ (fun aI wI=>∃ (v164:Value) (L163:List Int),Fr 90 aI [(9,nI x132),(8,.slice (some ⟨g153,0,none⟩) ((aWords s0.a (atI L41 (IntKind.i64.wrap ((L41.length:Int) - 1)))).length) c123),(6,v164),(5,.slice (some ⟨g104,0,none⟩) L43.length c57),(0,nP b0 0)]∧St w0 [] (RHeapP b0 ab0 sb0 g0 cb0 s0::RowP (.slice (some ⟨g153,0,none⟩) ((aWords s0.a (atI L41 (IntKind.i64.wrap ((L41.length:Int) - 1)))).length) c123) (aWords s0.a (atI L41 (IntKind.i64.wrap ((L41.length:Int) - 1))))::BoolsP (.slice (some ⟨g104,0,none⟩) L43.length c57) (setX L43 (atI L41 (IntKind.i64.wrap ((L41.length:Int) - 1))) (true))::RowP (v164) L163::ps) wI∧ref06_ReachK.j16 x132 (ref06_ReachK.l15 s0 L41 L43 (ref06_ReachK.l11 s0 k k45) k133) L163=some (r0,t0)) ?_ ?_
     rotate_left
     · rintro a166 w167 ⟨v164,L163,hF168,hS169,hm170⟩
       clear hF162 hS160 hm152
       unfold ref06_ReachK.j16 at hm170
       obtain ⟨hl175,p172,c173,rfl,hp174⟩:=St.shape hS169 3 rfl
       refine blockN ?_
       refine thenN (wp_region_lit ?_)
       refine ev_runK 3 hF168 [0,5,6,8,9] (l':=[(9,nI (IntKind.i64.wrap (x132+1))),(8,.slice (some ⟨g153,0,none⟩) ((aWords s0.a (atI L41 (IntKind.i64.wrap ((L41.length:Int) - 1)))).length) c123),(6,.slice p172 L163.length c173),(5,.slice (some ⟨g104,0,none⟩) L43.length c57),(0,nP b0 0)]) (w':=w167) (by kernel_rfl) ?_
       intro a177 hF176; clear hF168
       refine wpList_nil ?_
       exact thenN ⟨k133,Nat.lt_succ_self _,.slice p172 L163.length c173,L163,IntKind.i64.wrap (x132+1),hF176,hS169,hm170⟩
     · skip
       cases hc178:(vIsPtr (atI (aWords s0.a (atI L41 (IntKind.i64.wrap ((L41.length:Int) - 1)))) x132))
       case true =>
        rw [hc178] at hF162
        have hm179:=ifYes hc178 hm152; clear hm152
        refine ev_condT hF162 rfl rfl ?_
        refine wp_region_lit ?_
        refine ev_runs 3 hF162 (l':=[(69,nI x132),(68,.slice (some ⟨g153,0,none⟩) ((aWords s0.a (atI L41 (IntKind.i64.wrap ((L41.length:Int) - 1)))).length) c123),(67,.slice p140 L130.length c141),(66,.bool true),(9,nI x132),(8,.slice (some ⟨g153,0,none⟩) ((aWords s0.a (atI L41 (IntKind.i64.wrap ((L41.length:Int) - 1)))).length) c123),(6,.slice p140 L130.length c141),(5,.slice (some ⟨g104,0,none⟩) L43.length c57),(0,nP b0 0)]) (w':=w158) (by kernel_rfl) ?_
        intro a181 hF180; clear hF162
        refine ev_one (nP g153 (x132.toNat)) w158 hF180 (by kernel_rfl) rfl (by kernel_rfl) (run_idx rfl rfl rfl rfl rfl (inR_spec hc151).1 (inR_spec hc151).2 _) (l':=[(70,nP g153 (x132.toNat)),(69,nI x132),(68,.slice (some ⟨g153,0,none⟩) ((aWords s0.a (atI L41 (IntKind.i64.wrap ((L41.length:Int) - 1)))).length) c123),(67,.slice p140 L130.length c141),(66,.bool true),(9,nI x132),(8,.slice (some ⟨g153,0,none⟩) ((aWords s0.a (atI L41 (IntKind.i64.wrap ((L41.length:Int) - 1)))).length) c123),(6,.slice p140 L130.length c141),(5,.slice (some ⟨g104,0,none⟩) L43.length c57),(0,nP b0 0)]) (by kernel_rfl) ?_
        intro a183 hF182; clear hF180
        refine ev_one (nI (atI (aWords s0.a (atI L41 (IntKind.i64.wrap ((L41.length:Int) - 1)))) x132)) w158 hF182 (by kernel_rfl) rfl (by kernel_rfl) (run_load1 rfl rfl rfl (hS160.atI 1 rfl hc151)) (l':=[(71,nI (atI (aWords s0.a (atI L41 (IntKind.i64.wrap ((L41.length:Int) - 1)))) x132)),(70,nP g153 (x132.toNat)),(69,nI x132),(68,.slice (some ⟨g153,0,none⟩) ((aWords s0.a (atI L41 (IntKind.i64.wrap ((L41.length:Int) - 1)))).length) c123),(67,.slice p140 L130.length c141),(66,.bool true),(9,nI x132),(8,.slice (some ⟨g153,0,none⟩) ((aWords s0.a (atI L41 (IntKind.i64.wrap ((L41.length:Int) - 1)))).length) c123),(6,.slice p140 L130.length c141),(5,.slice (some ⟨g104,0,none⟩) L43.length c57),(0,nP b0 0)]) (by kernel_rfl) ?_
        intro a185 hF184; clear hF182
        refine ev_call 40 #[nI (atI (aWords s0.a (atI L41 (IntKind.i64.wrap ((L41.length:Int) - 1)))) x132)] hF184 rfl rfl (by kernel_rfl) rfl (by kernel_rfl) (fun w=>by kernel_rfl) ?_
        obtain ⟨x186,hx187,hm188⟩:=bind1E hm179; clear hm179
        refine (p_rAt hS160 hx187).mono ?_
        rintro _ w189 ⟨rfl,hS191⟩ a190 hF192; clear hF184 hS160
        refine ev_runs 1 hF192 (l':=[(73,.slice (some ⟨w189.heap.size,0,none⟩) 1 1),(72,nI x186),(71,nI (atI (aWords s0.a (atI L41 (IntKind.i64.wrap ((L41.length:Int) - 1)))) x132)),(70,nP g153 (x132.toNat)),(69,nI x132),(68,.slice (some ⟨g153,0,none⟩) ((aWords s0.a (atI L41 (IntKind.i64.wrap ((L41.length:Int) - 1)))).length) c123),(67,.slice p140 L130.length c141),(66,.bool true),(9,nI x132),(8,.slice (some ⟨g153,0,none⟩) ((aWords s0.a (atI L41 (IntKind.i64.wrap ((L41.length:Int) - 1)))).length) c123),(6,.slice p140 L130.length c141),(5,.slice (some ⟨g104,0,none⟩) L43.length c57),(0,nP b0 0)]) (w':=w189.alloc (.cells #[nI x186] 3)) (by kernel_rfl) ?_
        intro a194 hF193; clear hF192
        have hS195:=hS191.pick3
        clear hS191
        obtain ⟨L196,hx197,hm198⟩:=bind1E hm188; clear hm188
        refine ev_push 74 (.tmp 67) (.tmp 73) hF193 rfl rfl rfl rfl rfl rfl rfl rfl hS195 hx197 ?_
        intro g199 c200 w201 a202 hS203 hF204; clear hF193 hS195
        refine ev_runK 1 hF204 [0,5,6,8,9] (l':=[(6,nS g199 L196 c200),(9,nI x132),(8,.slice (some ⟨g153,0,none⟩) ((aWords s0.a (atI L41 (IntKind.i64.wrap ((L41.length:Int) - 1)))).length) c123),(5,.slice (some ⟨g104,0,none⟩) L43.length c57),(0,nP b0 0)]) (w':=w201) (by kernel_rfl) ?_
        intro a206 hF205; clear hF204
        refine wpList_nil ?_
        have hF207:Fr 90 a206 [(9,nI x132),(8,.slice (some ⟨g153,0,none⟩) ((aWords s0.a (atI L41 (IntKind.i64.wrap ((L41.length:Int) - 1)))).length) c123),(6,nS g199 L196 c200),(5,.slice (some ⟨g104,0,none⟩) L43.length c57),(0,nP b0 0)]:=Fr.re hF205 (by kernel_rfl)
        clear hF205
        have hS208:=hS203.pick3.pick3.pick3
        clear hS203
        exact thenN ⟨nS g199 L196 c200,L196,hF207,hS208,hm198⟩
       rw [hc178] at hF162
       have hm209:=ifNot hc178 hm152; clear hm152
       refine ev_condF hF162 rfl rfl ?_
       refine wp_skip ?_
       have hF210:=hF162.keep [0,5,6,8,9]
       clear hF162
       exact thenN ⟨.slice p140 L130.length c141,L130,hF210,hS160,hm209⟩
    rw [hc146] at hF144
    have hm211:=ifNot hc146 hm139; clear hm139
    refine ev_condF hF144 rfl rfl ?_
    refine wp_exit ?_
    refine thenE ?_
    refine thenE ?_
    refine blockE ?_
    refine blockN ?_
    have hF212:=hF144.keep [0,5,6]
    clear hF144
    have hS213:=hS137.pick1.drop
    clear hS137
    have hS214:=hS213.pick1.pick2
    clear hS213
    exact thenN ⟨k45,Nat.lt_succ_self _,.slice p140 L130.length c141,L130,.slice (some ⟨g104,0,none⟩) L43.length c57,setX L43 (atI L41 (IntKind.i64.wrap ((L41.length:Int) - 1))) (true),hF212,hS214,hm211⟩
  · skip
    refine wp_region_lit ?_
    refine ev_runs 3 hF84 (l':=[(39,nP b0 0),(38,nP b0 0),(37,nP b0 0),(6,.slice (some ⟨g69,0,none⟩) ((IntKind.i64.wrap ((L41.length:Int) - 1)).toNat) c53),(7,nI (atI L41 (IntKind.i64.wrap ((L41.length:Int) - 1)))),(5,.slice p56 L43.length c57),(0,nP b0 0)]) (w':=w47) (by kernel_rfl) ?_
    intro a216 hF215; clear hF84
    refine ev_one (nP ab0 0) w47 hF215 (by kernel_rfl) rfl (by kernel_rfl) (run_loadV rfl rfl (run_loadS rfl rfl (St.rhsee (k:=2) hS82 rfl).1)) (l':=[(40,nP ab0 0),(39,nP b0 0),(38,nP b0 0),(37,nP b0 0),(6,.slice (some ⟨g69,0,none⟩) ((IntKind.i64.wrap ((L41.length:Int) - 1)).toNat) c53),(7,nI (atI L41 (IntKind.i64.wrap ((L41.length:Int) - 1)))),(5,.slice p56 L43.length c57),(0,nP b0 0)]) (by kernel_rfl) ?_
    intro a218 hF217; clear hF215
    refine ev_runs 1 hF217 (l':=[(41,nI (atI L41 (IntKind.i64.wrap ((L41.length:Int) - 1)))),(40,nP ab0 0),(39,nP b0 0),(38,nP b0 0),(37,nP b0 0),(6,.slice (some ⟨g69,0,none⟩) ((IntKind.i64.wrap ((L41.length:Int) - 1)).toNat) c53),(7,nI (atI L41 (IntKind.i64.wrap ((L41.length:Int) - 1)))),(5,.slice p56 L43.length c57),(0,nP b0 0)]) (w':=w47) (by kernel_rfl) ?_
    intro a220 hF219; clear hF217
    have hS221:=hS82.pick2
    clear hS82
    refine ev_call 132 #[nP ab0 0,nI (atI L41 (IntKind.i64.wrap ((L41.length:Int) - 1)))] hF219 rfl rfl (by kernel_rfl) rfl (by kernel_rfl) (fun w=>by kernel_rfl) ?_
    refine (q_is hS221).mono ?_
    rintro _ w222 ⟨rfl,hS224⟩ a223 hF225; clear hF219 hS221
    refine ev_runs 2 hF225 (l':=[(44,.bool (!(isObj s0.a (atI L41 (IntKind.i64.wrap ((L41.length:Int) - 1)))))),(43,.bool (!(isObj s0.a (atI L41 (IntKind.i64.wrap ((L41.length:Int) - 1)))))),(42,.bool (isObj s0.a (atI L41 (IntKind.i64.wrap ((L41.length:Int) - 1))))),(41,nI (atI L41 (IntKind.i64.wrap ((L41.length:Int) - 1)))),(40,nP ab0 0),(39,nP b0 0),(38,nP b0 0),(37,nP b0 0),(6,.slice (some ⟨g69,0,none⟩) ((IntKind.i64.wrap ((L41.length:Int) - 1)).toNat) c53),(7,nI (atI L41 (IntKind.i64.wrap ((L41.length:Int) - 1)))),(5,.slice p56 L43.length c57),(0,nP b0 0)]) (w':=w222) (by kernel_rfl) ?_
    intro a227 hF226; clear hF225
    cases hc228:(!(isObj s0.a (atI L41 (IntKind.i64.wrap ((L41.length:Int) - 1)))))
    case true =>
     rw [hc228] at hF226
     have hm229:=ifYes hc228 hm79; clear hm79
     refine ev_runK 5 hF226 [0,5,6,7,49] (l':=[(49,.bool true),(6,.slice (some ⟨g69,0,none⟩) ((IntKind.i64.wrap ((L41.length:Int) - 1)).toNat) c53),(7,nI (atI L41 (IntKind.i64.wrap ((L41.length:Int) - 1)))),(5,.slice p56 L43.length c57),(0,nP b0 0)]) (w':=w222) (by kernel_rfl) ?_
     intro a231 hF230; clear hF226
     refine wpList_nil ?_
     exact thenN ⟨true,hF230,hS224,hm229⟩
    rw [hc228] at hF226
    have hm232:=ifNot hc228 hm79; clear hm79
    refine ev_runs 2 hF226 (l':=[(46,nI (atI L41 (IntKind.i64.wrap ((L41.length:Int) - 1)))),(45,.slice p56 L43.length c57),(44,.bool false),(43,.bool false),(42,.bool (isObj s0.a (atI L41 (IntKind.i64.wrap ((L41.length:Int) - 1))))),(41,nI (atI L41 (IntKind.i64.wrap ((L41.length:Int) - 1)))),(40,nP ab0 0),(39,nP b0 0),(38,nP b0 0),(37,nP b0 0),(6,.slice (some ⟨g69,0,none⟩) ((IntKind.i64.wrap ((L41.length:Int) - 1)).toNat) c53),(7,nI (atI L41 (IntKind.i64.wrap ((L41.length:Int) - 1)))),(5,.slice p56 L43.length c57),(0,nP b0 0)]) (w':=w222) (by kernel_rfl) ?_
    intro a234 hF233; clear hF226
    obtain ⟨hc235,hm236⟩:=ifTE hm232; clear hm232
    obtain ⟨g237,rfl⟩:=hp58.resolve_left (by have:=inR_spec hc235; omega)
    refine ev_one (nP g237 ((atI L41 (IntKind.i64.wrap ((L41.length:Int) - 1))).toNat)) w222 hF233 (by kernel_rfl) rfl (by kernel_rfl) (run_idx rfl rfl rfl rfl rfl (inR_spec hc235).1 (inR_spec hc235).2 _) (l':=[(47,nP g237 ((atI L41 (IntKind.i64.wrap ((L41.length:Int) - 1))).toNat)),(46,nI (atI L41 (IntKind.i64.wrap ((L41.length:Int) - 1)))),(45,.slice (some ⟨g237,0,none⟩) L43.length c57),(44,.bool false),(43,.bool false),(42,.bool (isObj s0.a (atI L41 (IntKind.i64.wrap ((L41.length:Int) - 1))))),(41,nI (atI L41 (IntKind.i64.wrap ((L41.length:Int) - 1)))),(40,nP ab0 0),(39,nP b0 0),(38,nP b0 0),(37,nP b0 0),(6,.slice (some ⟨g69,0,none⟩) ((IntKind.i64.wrap ((L41.length:Int) - 1)).toNat) c53),(7,nI (atI L41 (IntKind.i64.wrap ((L41.length:Int) - 1)))),(5,.slice (some ⟨g237,0,none⟩) L43.length c57),(0,nP b0 0)]) (by kernel_rfl) ?_
    intro a239 hF238; clear hF233
    refine ev_one (.bool (atB L43 (atI L41 (IntKind.i64.wrap ((L41.length:Int) - 1))))) w222 hF238 (by kernel_rfl) rfl (by kernel_rfl) (run_loadB rfl rfl rfl (hS224.atB 2 rfl hc235)) (l':=[(48,.bool (atB L43 (atI L41 (IntKind.i64.wrap ((L41.length:Int) - 1))))),(47,nP g237 ((atI L41 (IntKind.i64.wrap ((L41.length:Int) - 1))).toNat)),(46,nI (atI L41 (IntKind.i64.wrap ((L41.length:Int) - 1)))),(45,.slice (some ⟨g237,0,none⟩) L43.length c57),(44,.bool false),(43,.bool false),(42,.bool (isObj s0.a (atI L41 (IntKind.i64.wrap ((L41.length:Int) - 1))))),(41,nI (atI L41 (IntKind.i64.wrap ((L41.length:Int) - 1)))),(40,nP ab0 0),(39,nP b0 0),(38,nP b0 0),(37,nP b0 0),(6,.slice (some ⟨g69,0,none⟩) ((IntKind.i64.wrap ((L41.length:Int) - 1)).toNat) c53),(7,nI (atI L41 (IntKind.i64.wrap ((L41.length:Int) - 1)))),(5,.slice (some ⟨g237,0,none⟩) L43.length c57),(0,nP b0 0)]) (by kernel_rfl) ?_
    intro a241 hF240; clear hF238
    refine ev_runK 1 hF240 [0,5,6,7,49] (l':=[(49,.bool (atB L43 (atI L41 (IntKind.i64.wrap ((L41.length:Int) - 1))))),(6,.slice (some ⟨g69,0,none⟩) ((IntKind.i64.wrap ((L41.length:Int) - 1)).toNat) c53),(7,nI (atI L41 (IntKind.i64.wrap ((L41.length:Int) - 1)))),(5,.slice (some ⟨g237,0,none⟩) L43.length c57),(0,nP b0 0)]) (w':=w222) (by kernel_rfl) ?_
    intro a243 hF242; clear hF240
    refine wpList_nil ?_
    exact thenN ⟨atB L43 (atI L41 (IntKind.i64.wrap ((L41.length:Int) - 1))),hF242,hS224,hm236⟩
 rw [hc62] at hF60
 have hm244:=ifNot hc62 hm51; clear hm51
 refine ev_condF hF60 rfl rfl ?_
 refine wp_exit ?_
 refine thenE ?_
 refine thenE ?_
 refine blockE ?_
 refine thenN (wp_seq (wp_region_lit ?_))
 have hS246:St w0 [] (RowP (.slice none 0 0) []::RowP (.slice p52 L41.length c53) L41::BoolsP (.slice p56 L43.length c57) L43::RHeapP b0 ab0 sb0 g0 cb0 s0::ps) w47:=St.nil hS49
 clear hS49
 refine ev_runK 1 hF60 [5,10] (l':=[(10,.slice none 0 0),(5,.slice p56 L43.length c57)]) (w':=w47) (by kernel_rfl) ?_
 intro a248 hF247; clear hF60
 refine wpList_nil ?_
 have hS249:=hS246.pick1.drop
 clear hS246
 refine thenN (wp_seq (wp_seq (wp_region_lit ?_)))
 refine ev_runs 1 hF247 (l':=[(11,nI 0),(10,.slice none 0 0),(5,.slice p56 L43.length c57)]) (w':=w47) (by kernel_rfl) ?_
 intro a251 hF250; clear hF247
 refine wpList_nil (thenN ?_)
 refine wp_block ?_
 refine wp_loop_ghost (fun kI aI wI=>∃ (v253:Value) (L252:List Int) (x254:Int),Fr 90 aI [(11,nI x254),(10,v253),(5,.slice p56 L43.length c57)]∧St w0 [] (RowP (v253) L252::BoolsP (.slice p56 L43.length c57) L43::RHeapP b0 ab0 sb0 g0 cb0 s0::ps) wI∧ref06_ReachK.l19 s0 L43 kI L252 x254=some (r0,t0)) k ⟨.slice none 0 0,[],0,hF250,hS249,hm244⟩ ?_
 rintro k255 a256 w257 ⟨v253,L252,x254,hF258,hS259,hm260⟩
 clear hF250 hS249 hm244
 rcases k255 with _ | k255
 · cases hm260
 have hm261:ref06_ReachK.l19b s0 L43 (ref06_ReachK.l19 s0 L43 k255) L252 x254=some (r0,t0):=hm260
 clear hm260
 unfold ref06_ReachK.l19b at hm261
 obtain ⟨hl265,p262,c263,rfl,hp264⟩:=St.shape hS259 0 rfl
 refine wp_seq (wp_seq (wp_region_lit ?_))
 refine ev_runK 4 hF258 [5,10,11,78] (l':=[(78,.bool (decide (x254<(L43.length:Int)))),(11,nI x254),(10,.slice p262 L252.length c263),(5,.slice p56 L43.length c57)]) (w':=w257) (by kernel_rfl) ?_
 intro a267 hF266; clear hF258
 refine wpList_nil (thenN ?_)
 cases hc268:(decide (x254<(L43.length:Int)))
 case true =>
  rw [hc268] at hF266
  have hm269:=ifYes hc268 hm261; clear hm261
  refine ev_condT hF266 rfl rfl ?_
  refine wp_skip ?_
  have hF270:=hF266.keep [5,10,11]
  clear hF266
  refine thenN (wp_seq ?_)
  refine wp_block ?_
  refine wp_seq (wp_region_lit ?_)
  refine ev_runs 2 hF270 (l':=[(82,nI x254),(81,.slice p56 L43.length c57),(11,nI x254),(10,.slice p262 L252.length c263),(5,.slice p56 L43.length c57)]) (w':=w257) (by kernel_rfl) ?_
  intro a272 hF271; clear hF270
  obtain ⟨hc273,hm274⟩:=ifTE hm269; clear hm269
  obtain ⟨g275,rfl⟩:=hp58.resolve_left (by have:=inR_spec hc273; omega)
  refine ev_one (nP g275 (x254.toNat)) w257 hF271 (by kernel_rfl) rfl (by kernel_rfl) (run_idx rfl rfl rfl rfl rfl (inR_spec hc273).1 (inR_spec hc273).2 _) (l':=[(83,nP g275 (x254.toNat)),(82,nI x254),(81,.slice (some ⟨g275,0,none⟩) L43.length c57),(11,nI x254),(10,.slice p262 L252.length c263),(5,.slice (some ⟨g275,0,none⟩) L43.length c57)]) (by kernel_rfl) ?_
  intro a277 hF276; clear hF271
  refine ev_one (.bool (atB L43 x254)) w257 hF276 (by kernel_rfl) rfl (by kernel_rfl) (run_loadB rfl rfl rfl (hS259.atB 1 rfl hc273)) (l':=[(84,.bool (atB L43 x254)),(83,nP g275 (x254.toNat)),(82,nI x254),(81,.slice (some ⟨g275,0,none⟩) L43.length c57),(11,nI x254),(10,.slice p262 L252.length c263),(5,.slice (some ⟨g275,0,none⟩) L43.length c57)]) (by kernel_rfl) ?_
  intro a279 hF278; clear hF276
  refine wpList_nil ?_
  have hF280:=hF278.keep [5,10,11,84]
  clear hF278
  refine thenN ?_
  refine joinQ (fun aI wI=>∃ (v282:Value) (L281:List Int),Fr 90 aI [(11,nI x254),(10,v282),(5,.slice (some ⟨g275,0,none⟩) L43.length c57)]∧St w0 [] (RowP (v282) L281::BoolsP (.slice (some ⟨g275,0,none⟩) L43.length c57) L43::RHeapP b0 ab0 sb0 g0 cb0 s0::ps) wI∧ref06_ReachK.j20 x254 (ref06_ReachK.l19 s0 L43 k255) L281=some (r0,t0)) ?_ ?_
  rotate_left
  · rintro a284 w285 ⟨v282,L281,hF286,hS287,hm288⟩
    clear hF280 hS259 hm274
    unfold ref06_ReachK.j20 at hm288
    obtain ⟨hl293,p290,c291,rfl,hp292⟩:=St.shape hS287 0 rfl
    refine blockN ?_
    refine thenN (wp_region_lit ?_)
    refine ev_runK 3 hF286 [5,10,11] (l':=[(11,nI (IntKind.i64.wrap (x254+1))),(10,.slice p290 L281.length c291),(5,.slice (some ⟨g275,0,none⟩) L43.length c57)]) (w':=w285) (by kernel_rfl) ?_
    intro a295 hF294; clear hF286
    refine wpList_nil ?_
    exact thenN ⟨k255,Nat.lt_succ_self _,.slice p290 L281.length c291,L281,IntKind.i64.wrap (x254+1),hF294,hS287,hm288⟩
  · skip
    cases hc296:(atB L43 x254)
    case true =>
     rw [hc296] at hF280
     have hm297:=ifYes hc296 hm274; clear hm274
     refine ev_condT hF280 rfl rfl ?_
     refine wp_region_lit ?_
     refine ev_runs 3 hF280 (l':=[(87,.slice (some ⟨w257.heap.size,0,none⟩) 1 1),(86,nI x254),(85,.slice p262 L252.length c263),(84,.bool true),(11,nI x254),(10,.slice p262 L252.length c263),(5,.slice (some ⟨g275,0,none⟩) L43.length c57)]) (w':=w257.alloc (.cells #[nI x254] 3)) (by kernel_rfl) ?_
     intro a299 hF298; clear hF280
     obtain ⟨L300,hx301,hm302⟩:=bind1E hm297; clear hm297
     refine ev_push 88 (.tmp 85) (.tmp 87) hF298 rfl rfl rfl rfl rfl rfl rfl rfl hS259 hx301 ?_
     intro g303 c304 w305 a306 hS307 hF308; clear hF298 hS259
     refine ev_runK 1 hF308 [5,10,11] (l':=[(10,nS g303 L300 c304),(11,nI x254),(5,.slice (some ⟨g275,0,none⟩) L43.length c57)]) (w':=w305) (by kernel_rfl) ?_
     intro a310 hF309; clear hF308
     refine wpList_nil ?_
     have hF311:Fr 90 a310 [(11,nI x254),(10,nS g303 L300 c304),(5,.slice (some ⟨g275,0,none⟩) L43.length c57)]:=Fr.re hF309 (by kernel_rfl)
     clear hF309
     exact thenN ⟨nS g303 L300 c304,L300,hF311,hS307,hm302⟩
    rw [hc296] at hF280
    have hm312:=ifNot hc296 hm274; clear hm274
    refine ev_condF hF280 rfl rfl ?_
    refine wp_skip ?_
    have hF313:=hF280.keep [5,10,11]
    clear hF280
    exact thenN ⟨.slice p262 L252.length c263,L252,hF313,hS259,hm312⟩
 rw [hc268] at hF266
 have hm314:=ifNot hc268 hm261; clear hm261
 refine ev_condF hF266 rfl rfl ?_
 refine wp_exit ?_
 refine thenE ?_
 refine thenE ?_
 refine blockE ?_
 refine thenN (wp_seq (wp_region_lit ?_))
 refine ev_runK 2 hF266 [4] (l':=[(4,.slice p262 L252.length c263)]) (w':=w257) (by kernel_rfl) ?_
 intro a316 hF315; clear hF266
 refine wpList_nil ?_
 have hS317:=hS259.pick1.drop
 clear hS259
 refine thenN ?_
 refine wp_ret ?_
 have hS318:=hS317.pick1
 clear hS317
 simp only [Option.some.injEq,Prod.mk.injEq] at hm314
 obtain ⟨rfl,rfl⟩:=hm314
 refine ev_ret hF315 [4] (.slice p262 L252.length c263) rfl rfl rfl ?_
 exact ⟨_,rfl,hS318⟩
end Go.Proofs.YtffnjpapggidlaaGreat
