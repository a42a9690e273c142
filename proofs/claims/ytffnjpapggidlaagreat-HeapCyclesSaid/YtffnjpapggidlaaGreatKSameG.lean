/- SameG -/
import Derived.Test.YtffnjpapggidlaaGreatKArgX
import Derived.Test.YtffnjpapggidlaaGreatKSepHeap
import Derived.Test.YtffnjpapggidlaaGreatKEv2
import Derived.Test.YtffnjpapggidlaaGreatKMem
import Derived.Test.YtffnjpapggidlaaGreatKAppM
import Derived.Deep.LoopGhost
import Derived.KernelRfl
namespace Go.Proofs.YtffnjpapggidlaaGreat
open Go.RowKit
set_option linter.unusedVariables false
def sameG (L M:List Gn):Bool:=decide (L=M)
def gnV (g:Gn) (v:Value):Value:=.agg #[.int .i64 g.kind,.int .i64 g.at',v,.bool g.kept]
theorem gn_ext {x y:Gn}:x=y ↔ x.kind=y.kind∧x.at'=y.at'∧x.kept=y.kept∧x.words=y.words:=by
  constructor
  · rintro rfl; exact ⟨rfl,rfl,rfl,rfl⟩
  · rintro ⟨a,b,c,d⟩
    cases x; cases y
    simp only at a b c d
    subst a b c d
    rfl
theorem bools_beq (a b:Bool):(a == b)=decide (a=b):=by cases a <;> cases b <;> rfl
section
variable {w0 w:World} {F0:List Nat} {ps:List Piece}
theorem St.alloc2 (h:St w0 F0 ps w) (o o2:Obj):St w0 F0 ps ((w.alloc o).alloc o2):=(h.alloc o).alloc o2
set_option maxHeartbeats 1000000 in
theorem gone_one {k1 k2:Nat} (hs:St w0 F0 ps w) (x y:Gn) {v1 v2:Value} (hk1:ps[k1]?=some (RowP v1 x.words)) (hk2:ps[k2]?=some (RowP v2 y.words)) :
    Calls Tryz.prog 73 #[gnV x v1,gnV y v2] w fun e w'=>e=.returned (.bool (decide (x=y)))∧St w0 F0 ps w':=by
  obtain ⟨l1,p1,c1,rfl,_⟩:=hs.rowR k1 hk1
  obtain ⟨l2,p2,c2,rfl,_⟩:=hs.rowR k2 hk2
  unfold gnV
  have hd:decide (x=y)=(x.kind == y.kind && (x.at' == y.at' && (x.kept == y.kept && decide (x.words=y.words)))):=by
    rw [ints_beq,ints_beq,bools_beq,Bool.eq_iff_iff]
    simp only [decide_eq_true_eq,Bool.and_eq_true]
    exact gn_ext
  rw [hd]
  clear hd l1 l2
  have HK:=Lib.hid (And.intro hk1 hk2)
  clear hk1 hk2
  generalize (x.words.map (Value.int .i64)).length=n1 at *
  generalize (y.words.map (Value.int .i64)).length=n2 at *
  cases e1:(x.kind == y.kind) with
  | false =>
    go_enter Tryz.func73,Tryz.ntmps73
    go_wp2
    go_ret
    exact ⟨rfl,hs.alloc2 _ _⟩
  | true =>
    cases e2:(x.at' == y.at') with
    | false =>
      go_enter Tryz.func73,Tryz.ntmps73
      go_wp2
      go_ret
      exact ⟨rfl,hs.alloc2 _ _⟩
    | true =>
      cases e3:(x.kept == y.kept) with
      | false =>
        go_enter Tryz.func73,Tryz.ntmps73
        go_wp2
        go_ret
        exact ⟨rfl,hs.alloc2 _ _⟩
      | true =>
        go_enter Tryz.func73,Tryz.ntmps73
        go_wp2_with fail
        refine (plain_int _ _ x.words y.words _ ((hs.alloc2 _ _).rowR k1 HK.out.1) ((hs.alloc2 _ _).rowR k2 HK.out.2)).mono ?_
        rintro e w1 ⟨rfl,n,rfl⟩
        go_wp2
        go_ret
        exact ⟨rfl,(hs.alloc2 _ _).drewN n⟩
theorem St.cellsRG {k g n c:Nat} {vs:List Value} {l:List Gn} (hs:St w0 F0 ps w) (hk:ps[k]?=some (RowG (.slice (some ⟨g,0,none⟩) n c) vs l)) (e:vs.length=l.length) (i:Nat) (hi:i<l.length) :
    w.cell? ⟨g,i * 4,none⟩=some (.int .i64 l[i].kind)∧w.cell? ⟨g,i * 4+1,none⟩=some (.int .i64 l[i].at')∧w.cell? ⟨g,i * 4+2,none⟩=some (vs[i]'(by omega))∧w.cell? ⟨g,i * 4+3,none⟩=some (.bool l[i].kept):=by
  obtain ⟨G,h1⟩:=hs.get k hk
  have hc:=h1.1.cells (g:=g) rfl
  obtain ⟨a0,a1,a2,a3⟩:=gnCells_get vs l e i hi
  have add:∀ j,(⟨g,0,none⟩:Addr).add j=⟨g,j,none⟩:=by
    intro j; have:=Go.WideShapes.add_plain g 0 j; simpa using this
  have b0:=hc _ _ a0
  have b1:=hc _ _ a1
  have b2:=hc _ _ a2
  have b3:=hc _ _ a3
  rw [add] at b0 b1 b2 b3
  exact ⟨b0,b1,b2,b3⟩
theorem rowsG_at (vs:List Value) (l:List Gn) (e:vs.length=l.length) (i:Nat) (hi:i<l.length) (qs:List Piece):(rowsG vs l ++ qs)[i]?=some (RowP (vs[i]'(by omega)) l[i].words):=by
  have hl:(rowsG vs l).length=l.length:=by unfold rowsG; rw [List.length_zipWith,e,Nat.min_self]
  rw [List.getElem?_append_left (by omega)]
  unfold rowsG
  rw [List.getElem?_zipWith,List.getElem?_eq_getElem (by omega),List.getElem?_eq_getElem hi]
theorem rowsG_len (vs:List Value) (l:List Gn) (e:vs.length=l.length):(rowsG vs l).length=l.length:=by unfold rowsG; rw [List.length_zipWith,e,Nat.min_self]
def TwoG (v1 v2:Value) (vs ws:List Value) (l1 l2:List Gn) (ps:List Piece):List Piece:=RowG v1 vs l1::RowG v2 ws l2::(rowsG vs l1 ++ (rowsG ws l2 ++ ps))
theorem St.openTwo {v1 v2:Value} {l1 l2:List Gn} (hs:St w0 F0 (GonesP v1 l1::GonesP v2 l2::ps) w):∃ vs ws,vs.length=l1.length∧ws.length=l2.length∧St w0 F0 (TwoG v1 v2 vs ws l1 l2 ps) w:=by
  obtain ⟨vs,ev,h1⟩:=St.openG.1 hs
  have h2:St w0 F0 (GonesP v2 l2::RowG v1 vs l1::(rowsG vs l1 ++ ps)) w:=h1.perm (List.perm_middle (l₁:=RowG v1 vs l1::rowsG vs l1))
  obtain ⟨ws,ew,h3⟩:=St.openG.1 h2
  refine ⟨vs,ws,ev,ew,h3.perm ?_⟩
  unfold TwoG
  refine List.Perm.trans (List.Perm.cons _ (List.perm_middle (l₁:=rowsG ws l2))) ?_
  refine List.Perm.trans (List.Perm.swap _ _ _) (List.Perm.cons _ (List.Perm.cons _ ?_))
  rw [← List.append_assoc,← List.append_assoc]
  exact List.Perm.append_right _ List.perm_append_comm
theorem St.closeTwo {v1 v2:Value} {vs ws:List Value} {l1 l2:List Gn} (ev:vs.length=l1.length) (ew:ws.length=l2.length) (hs:St w0 F0 (TwoG v1 v2 vs ws l1 l2 ps) w):St w0 F0 (GonesP v1 l1::GonesP v2 l2::ps) w:=by
  have h3:St w0 F0 (RowG v2 ws l2::(rowsG ws l2 ++ RowG v1 vs l1::(rowsG vs l1 ++ ps))) w:=by
    refine hs.perm (List.Perm.symm ?_)
    unfold TwoG
    refine List.Perm.trans (List.Perm.cons _ (List.perm_middle (l₁:=rowsG ws l2))) ?_
    refine List.Perm.trans (List.Perm.swap _ _ _) (List.Perm.cons _ (List.Perm.cons _ ?_))
    rw [← List.append_assoc,← List.append_assoc]
    exact List.Perm.append_right _ List.perm_append_comm
  have h2:=St.openG.2 ⟨ws,ew,h3⟩
  have h1:St w0 F0 (RowG v1 vs l1::(rowsG vs l1 ++ GonesP v2 l2::ps)) w:=h2.perm (List.perm_middle (l₁:=RowG v1 vs l1::rowsG vs l1)).symm
  exact St.openG.2 ⟨vs,ev,h1⟩
abbrev Two (b1 c1 b2 c2:Nat) (vs ws:List Value) (l1 l2:List Gn) (ps:List Piece):List Piece:=TwoG (.slice (some ⟨b1,0,none⟩) l1.length c1) (.slice (some ⟨b2,0,none⟩) l2.length c2) vs ws l1 l2 ps
abbrev gnL (x:Gn) (u:Value):List Value:=[.int .i64 x.kind,.int .i64 x.at',u,.bool x.kept]
theorem two_cells1 {b1 c1 b2 c2:Nat} {vs ws:List Value} {l1 l2:List Gn} {W:World} (hs:St w0 F0 (Two b1 c1 b2 c2 vs ws l1 l2 ps) W) (ev:vs.length=l1.length) (k:Nat) {x:Gn} {u:Value} (hx:l1[k]?=some x) (hu:vs[k]?=some u):∀ j (hj:j<(gnL x u).length),W.cell? ⟨b1,(k:Int).toNat * 4+j,none⟩=some ((gnL x u)[j]):=by
  obtain ⟨hk,rfl⟩:=List.getElem?_eq_some_iff.1 hx
  obtain ⟨hk2,rfl⟩:=List.getElem?_eq_some_iff.1 hu
  obtain ⟨d0,d1,d2,d3⟩:=hs.cellsRG (k:=0) rfl ev k hk
  intro j hj
  rw [Int.toNat_natCast]
  match j,hj with
  | 0,_=>exact d0
  | 1,_=>exact d1
  | 2,_=>exact d2
  | 3,_=>exact d3
theorem two_cells2 {b1 c1 b2 c2:Nat} {vs ws:List Value} {l1 l2:List Gn} {W:World} (hs:St w0 F0 (Two b1 c1 b2 c2 vs ws l1 l2 ps) W) (ew:ws.length=l2.length) (k:Nat) {x:Gn} {u:Value} (hx:l2[k]?=some x) (hu:ws[k]?=some u):∀ j (hj:j<(gnL x u).length),W.cell? ⟨b2,(k:Int).toNat * 4+j,none⟩=some ((gnL x u)[j]):=by
  obtain ⟨hk,rfl⟩:=List.getElem?_eq_some_iff.1 hx
  obtain ⟨hk2,rfl⟩:=List.getElem?_eq_some_iff.1 hu
  obtain ⟨d0,d1,d2,d3⟩:=hs.cellsRG (k:=1) rfl ew k hk
  intro j hj
  rw [Int.toNat_natCast]
  match j,hj with
  | 0,_=>exact d0
  | 1,_=>exact d1
  | 2,_=>exact d2
  | 3,_=>exact d3
theorem two_row1 {v1 v2:Value} {vs ws:List Value} {l1 l2:List Gn} (ev:vs.length=l1.length) (k:Nat) {x:Gn} {u:Value} (hx:l1[k]?=some x) (hu:vs[k]?=some u):(TwoG v1 v2 vs ws l1 l2 ps)[2+k]?=some (RowP u x.words):=by
  obtain ⟨hk,rfl⟩:=List.getElem?_eq_some_iff.1 hx
  obtain ⟨hk2,rfl⟩:=List.getElem?_eq_some_iff.1 hu
  show (RowG _ _ _::RowG _ _ _::(rowsG vs l1 ++ (rowsG ws l2 ++ ps)))[2+k]?=_
  rw [show 2+k=k+1+1 by omega,List.getElem?_cons_succ,List.getElem?_cons_succ]
  exact rowsG_at vs l1 ev k hk _
theorem two_row2 {v1 v2:Value} {vs ws:List Value} {l1 l2:List Gn} (ev:vs.length=l1.length) (ew:ws.length=l2.length) (k:Nat) {x:Gn} {u:Value} (hx:l2[k]?=some x) (hu:ws[k]?=some u):(TwoG v1 v2 vs ws l1 l2 ps)[2+(l1.length+k)]?=some (RowP u x.words):=by
  obtain ⟨hk,rfl⟩:=List.getElem?_eq_some_iff.1 hx
  obtain ⟨hk2,rfl⟩:=List.getElem?_eq_some_iff.1 hu
  show (RowG _ _ _::RowG _ _ _::(rowsG vs l1 ++ (rowsG ws l2 ++ ps)))[2+(l1.length+k)]?=_
  rw [show 2+(l1.length+k)=l1.length+k+1+1 by omega,List.getElem?_cons_succ,List.getElem?_cons_succ,List.getElem?_append_right (by rw [rowsG_len vs l1 ev]; omega),rowsG_len vs l1 ev,show l1.length+k - l1.length=k by omega]
  exact rowsG_at ws l2 ew k hk _
set_option maxRecDepth 100000 in
set_option maxHeartbeats 1500000 in
theorem p_SameG {v1 v2:Value} {l1 l2:List Gn} (hs:St w0 F0 (GonesP v1 l1::GonesP v2 l2::ps) w) :
    Calls Tryz.prog 70 #[v1,v2,.func (.func 73) #[] #[]] w fun e w'=>e=.returned (.bool (sameG l1 l2))∧St w0 F0 (GonesP v1 l1::GonesP v2 l2::ps) w':=by
 obtain ⟨hm1,p1,c1,rfl,hp1⟩:=hs.shapeG (k:=0) rfl
 obtain ⟨hm2,p2,c2,rfl,hp2⟩:=hs.shapeG (k:=1) rfl
 unfold maxLen at hm1 hm2
 refine ev_enterL 30 [.slice p1 l1.length c1,.slice p2 l2.length c2,.func (.func 73) #[] #[]] Tryz.func70 rfl rfl (by simp) ?_
 intro a hF
 have hF0:Fr 30 a [(0,.slice p1 l1.length c1),(1,.slice p2 l2.length c2),(2,.func (.func 73) #[] #[])]:=hF; clear hF
 refine wp_seq (wp_region_lit ?_)
 refine ev_runs 1 hF0 (l':=[(6,.bool false),(0,.slice p1 l1.length c1),(1,.slice p2 l2.length c2),(2,.func (.func 73) #[] #[])]) (w':=w) (by kernel_rfl) ?_
 intro a10 hF9; clear hF0
 have hF9:=hF9.keep [0,1,2]
 refine wpList_nil (thenN (wp_seq (wp_seq (wp_region_lit ?_))))
 refine ev_runs 5 hF9 (l':=[(12,.bool ((l1.length:Int) != (l2.length:Int))),(11,nI (l2.length:Int)),(10,.slice p2 l2.length c2),(9,nI (l1.length:Int)),(8,.slice p1 l1.length c1),(0,.slice p1 l1.length c1),(1,.slice p2 l2.length c2),(2,.func (.func 73) #[] #[])]) (w':=w) (by kernel_rfl) ?_
 intro a12 hF11; clear hF9
 refine wpList_nil (thenN ?_)
 by_cases hl:l1.length=l2.length
 case neg =>
  have hne:((l1.length:Int) != l2.length)=true:=by simp; omega
  rw [hne] at hF11
  refine ev_condT hF11 rfl rfl ?_
  refine wp_seq (wp_region_lit ?_)
  have hF11:=hF11.keep [0,1,2]
  refine ev_runs 1 hF11 (l':=[(6,.bool false),(0,.slice p1 l1.length c1),(1,.slice p2 l2.length c2),(2,.func (.func 73) #[] #[])]) (w':=w) (by kernel_rfl) ?_
  intro a16 hF15; clear hF11
  refine wpList_nil (thenN ?_)
  refine wp_ret ?_
  refine thenR ?_
  refine ev_ret hF15 [6] (.bool false) rfl rfl rfl ?_
  exact ⟨ret_b (by unfold sameG; symm; rw [decide_eq_false_iff_not]; intro e; exact hl (by rw [e])),hs⟩
 have hne:((l1.length:Int) != l2.length)=false:=by rw [hl]; simp
 rw [hne] at hF11
 refine ev_condF hF11 rfl rfl ?_
 refine wp_skip ?_
 have hF19:=hF11.keep [0,1,2]
 clear hF11
 obtain ⟨vs,ws,ev,ew,hS⟩:=hs.openTwo
 clear hs
 refine thenN (wp_seq (wp_seq (wp_region_lit ?_)))
 refine ev_runs 1 hF19 (l':=[(7,nI 0),(0,.slice p1 l1.length c1),(1,.slice p2 l2.length c2),(2,.func (.func 73) #[] #[])]) (w':=w) (by kernel_rfl) ?_
 intro a21 hF20; clear hF19
 refine wpList_nil (thenN ?_)
 refine wp_block ?_
 refine wp_loop_ghost (fun kI aI wI=>∃ j:Nat,Fr 30 aI [(7,nI (j:Int)),(0,.slice p1 l1.length c1),(1,.slice p2 l2.length c2),(2,.func (.func 73) #[] #[])]∧St w0 F0 (TwoG (.slice p1 l1.length c1) (.slice p2 l2.length c2) vs ws l1 l2 ps) wI∧j≤l1.length∧l1.length - j<kI∧l1.take j=l2.take j) (l1.length+1) ⟨0,hF20,hS,by omega,by omega,rfl⟩ ?_
 rintro k23 a24 w25 ⟨j,hF26,hS27,hj,hk,ht⟩
 clear hF20 hS
 rcases k23 with _ | k23
 · omega
 refine wp_seq (wp_seq (wp_region_lit ?_))
 refine ev_runs 4 hF26 (l':=[(16,.bool (decide ((j:Int)<(l1.length:Int)))),(15,nI (l1.length:Int)),(14,.slice p1 l1.length c1),(13,nI (j:Int)),(7,nI (j:Int)),(0,.slice p1 l1.length c1),(1,.slice p2 l2.length c2),(2,.func (.func 73) #[] #[])]) (w':=w25) (by kernel_rfl) ?_
 intro a31 hF30; clear hF26
 refine wpList_nil (thenN ?_)
 by_cases hlt:j<l1.length
 case pos =>
  rw [show decide ((j:Int)<(l1.length:Int))=true by rw [decide_eq_true_eq]; omega] at hF30
  refine ev_condT hF30 rfl rfl ?_
  refine wp_skip ?_
  have hF34:=hF30.keep [0,1,2,7]
  clear hF30
  refine thenN (wp_seq ?_)
  refine wp_block ?_
  refine wp_seq ?_
  have hc35:inR (j:Int) l1.length=true:=by simp [inR]; omega
  have hc38:inR (j:Int) l2.length=true:=by simp [inR]; omega
  obtain ⟨g37,rfl⟩:=hp1.resolve_left (by omega)
  obtain ⟨g40,rfl⟩:=hp2.resolve_left (by omega)
  have hS41:=hS27.drew; clear hS27
  obtain ⟨x,hx⟩:∃ x,l1[j]?=some x:=⟨_,List.getElem?_eq_getElem hlt⟩
  obtain ⟨y,hy⟩:∃ y,l2[j]?=some y:=⟨_,List.getElem?_eq_getElem (by omega)⟩
  obtain ⟨u,hu⟩:∃ u,vs[j]?=some u:=⟨_,List.getElem?_eq_getElem (by omega)⟩
  obtain ⟨z,hz⟩:∃ z,ws[j]?=some z:=⟨_,List.getElem?_eq_getElem (by omega)⟩
  refine any_start (fun wS=>St w0 F0 (Two g37 c1 g40 c2 vs ws l1 l2 ps) wS) 11 #[false,false,false,false,false,false,false,false,false,false,false] (by kernel_rfl) (by kernel_rfl) (by kernel_rfl) ?_
  refine any_many 9 [(0,some (.func (.func 73) #[] #[])),(1,some (.slice (some ⟨g37,0,none⟩) l1.length c1)),(2,some (nI (j:Int))),(3,some (nP g37 ((j:Int).toNat * 4))),(4,some (.agg #[nI x.kind,nI x.at',u,.bool x.kept])),(5,some (.slice (some ⟨g40,0,none⟩) l2.length c2)),(6,some (nI (j:Int))),(7,some (nP g40 ((j:Int).toNat * 4))),(8,some (.agg #[nI y.kind,nI y.at',z,.bool y.kept]))] [0,1,2,7,19,23,27,28,29] #[true,true,true,true,true,true,true,true,true,false,false] (by rfl) hF34 (by kernel_rfl) (by kernel_rfl) (by exact ⟨fun wS hw=>by kernel_rfl,fun wS hw=>by kernel_rfl,fun wS hw=>by kernel_rfl,fun wS hw=>run_idxX rfl rfl (by kernel_rfl) rfl rfl (inR_spec hc35).1 (inR_spec hc35).2 _,fun wS hw=>run_loadV rfl rfl (run_loadA (cs:=[nI x.kind,nI x.at',u,.bool x.kept]) rfl rfl (by kernel_rfl) (two_cells1 hw ev j hx hu)),fun wS hw=>by kernel_rfl,fun wS hw=>by kernel_rfl,fun wS hw=>run_idxX rfl rfl (by kernel_rfl) rfl rfl (inR_spec hc38).1 (inR_spec hc38).2 _,fun wS hw=>run_loadV rfl rfl (run_loadA (cs:=[nI y.kind,nI y.at',z,.bool y.kept]) rfl rfl (by kernel_rfl) (two_cells2 hw ew j hy hz)),trivial⟩) (fun _ _ _ _ _ h=>h) hS41 (l':=[(27,.agg #[nI y.kind,nI y.at',z,.bool y.kept]),(23,.agg #[nI x.kind,nI x.at',u,.bool x.kept]),(19,.func (.func 73) #[] #[]),(7,nI (j:Int)),(0,.slice (some ⟨g37,0,none⟩) l1.length c1),(1,.slice (some ⟨g40,0,none⟩) l2.length c2),(2,.func (.func 73) #[] #[])]) (by kernel_rfl) ?_
  intro a43 hF42; clear hF34
  refine any_call 9 #[true,true,true,true,true,true,true,true,true,true,false] 73 #[.agg #[nI x.kind,nI x.at',u,.bool x.kept],.agg #[nI y.kind,nI y.at',z,.bool y.kept]] hF42 rfl (by kernel_rfl) rfl rfl (by kernel_rfl) rfl (by kernel_rfl) (fun w=>by kernel_rfl) (by kernel_rfl) ?_
  refine (gone_one hS41 x y (two_row1 ev j hx hu) (two_row2 ev ew j hy hz)).mono ?_
  rintro _ w47 ⟨rfl,hS49⟩; clear hS41
  refine ⟨hS49,?_⟩
  intro a48 hF50; clear hF42
  refine any_many 1 [(10,some (.bool (!decide (x=y))))] [0,1,2,7,29] #[true,true,true,true,true,true,true,true,true,true,true] (by rfl) hF50 (by kernel_rfl) (by kernel_rfl) (by exact ⟨fun wS hw=>by kernel_rfl,trivial⟩) (fun _ _ _ _ _ h=>h) hS49 (l':=[(29,.bool (!decide (x=y))),(7,nI (j:Int)),(0,.slice (some ⟨g37,0,none⟩) l1.length c1),(1,.slice (some ⟨g40,0,none⟩) l2.length c2),(2,.func (.func 73) #[] #[])]) (by kernel_rfl) ?_
  intro a52 hF51; clear hF50
  refine any_done (by kernel_rfl) ?_
  refine thenN ?_
  obtain ⟨hj1,ex⟩:=List.getElem?_eq_some_iff.1 hx
  obtain ⟨hj2,ey⟩:=List.getElem?_eq_some_iff.1 hy
  by_cases hxy:x=y
  case neg =>
   rw [show (!decide (x=y))=true by simp [hxy]] at hF51
   refine ev_condT hF51 rfl rfl ?_
   refine wp_seq (wp_region_lit ?_)
   have hF51:=hF51.keep [0,1,2,7]
   refine ev_runs 1 hF51 (l':=[(6,.bool false),(7,nI (j:Int)),(0,.slice (some ⟨g37,0,none⟩) l1.length c1),(1,.slice (some ⟨g40,0,none⟩) l2.length c2),(2,.func (.func 73) #[] #[])]) (w':=w47) (by kernel_rfl) ?_
   intro a56 hF55; clear hF51
   refine wpList_nil (thenN ?_)
   refine wp_ret ?_
   refine blockR ?_
   refine thenR (thenR ?_)
   refine blockR ?_
   refine thenR ?_
   refine ev_ret hF55 [6] (.bool false) rfl rfl rfl ?_
   refine ⟨ret_b ?_,hS49.closeTwo ev ew⟩
   unfold sameG
   symm
   rw [decide_eq_false_iff_not]
   intro e
   subst e
   rw [hx] at hy
   injection hy with hy
   exact hxy hy
  rw [show (!decide (x=y))=false by simp [hxy]] at hF51
  refine ev_condF hF51 rfl rfl ?_
  refine wp_skip ?_
  have hF59:=hF51.keep [0,1,2,7]
  clear hF51
  refine blockN ?_
  refine thenN (wp_region_lit ?_)
  refine ev_runK 3 hF59 [0,1,2,7] (l':=[(7,nI (IntKind.i64.wrap ((j:Int)+1))),(0,.slice (some ⟨g37,0,none⟩) l1.length c1),(1,.slice (some ⟨g40,0,none⟩) l2.length c2),(2,.func (.func 73) #[] #[])]) (w':=w47) (by kernel_rfl) ?_
  intro a61 hF60; clear hF59
  refine wpList_nil ?_
  refine thenN ⟨k23,Nat.lt_succ_self _,j+1,?_,hS49,by omega,by omega,?_⟩
  · have e:IntKind.i64.wrap ((j:Int)+1)=((j+1:Nat):Int):=by rw [IntKind.wrap_i64]; omega
    rw [e] at hF60
    exact hF60
  · rw [List.take_succ_eq_append_getElem hj1,List.take_succ_eq_append_getElem hj2,ex,ey,hxy,ht]
 rw [show decide ((j:Int)<(l1.length:Int))=false by rw [decide_eq_false_iff_not]; omega] at hF30
 refine ev_condF hF30 rfl rfl ?_
 refine wp_exit ?_
 refine thenE ?_
 refine thenE ?_
 refine blockE ?_
 have hF30:=hF30.keep [0,1,2,7]
 refine thenN (wp_seq (wp_region_lit ?_))
 refine ev_runs 1 hF30 (l':=[(6,.bool true),(7,nI (j:Int)),(0,.slice p1 l1.length c1),(1,.slice p2 l2.length c2),(2,.func (.func 73) #[] #[])]) (w':=w25) (by kernel_rfl) ?_
 intro a64 hF63; clear hF30
 refine wpList_nil (thenN ?_)
 refine wp_ret ?_
 refine ev_ret hF63 [6] (.bool true) rfl rfl rfl ?_
 refine ⟨ret_b ?_,hS27.closeTwo ev ew⟩
 have hj':j=l1.length:=by omega
 subst hj'
 rw [List.take_length,hl,List.take_length] at ht
 unfold sameG; simp [ht]
end
end Go.Proofs.YtffnjpapggidlaaGreat
