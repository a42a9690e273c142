/- GChoose -/
import Derived.Test.YtjdlnmbfomojdaaGreatKGSend
import Derived.Test.YtjdlnmbfomojdaaGreatKGTake
import Derived.Test.YtjdlnmbfomojdaaGreatKAppM
import Derived.Test.YtjdlnmbfomojdaaGreatKRowY
import Derived.Test.YtjdlnmbfomojdaaGreatKRowOf
import Derived.Deep.LoopGhost
import Derived.KernelRfl
namespace Go.Proofs.YtjdlnmbfomojdaaGreat
open Go.RowKit
set_option maxRecDepth 100000
set_option maxHeartbeats 40000000
set_option linter.unusedVariables false
def choose_word.j1 (i0:Gr) (i1:Int) (y7:Bool):Option (Int):=(if (y7) then some (wrap64 (2 * 0)) else (if (inR i1 6) then some (atI [i0.a,i0.b,i0.c,i0.d,i0.e,i0.f] i1) else none))
def choose_word.m (k:Nat) (i0:Gr) (i1:Int):Option (Int):=(if (decide (i1<0)) then choose_word.j1 i0 i1 true else choose_word.j1 i0 i1 (decide (i1 ≥ 6)))
theorem choose_word.ok {w0 w:World} {F0:List Nat} {ps:List Piece} {k:Nat} {i0:Gr} {i1:Int} {r0:Int} (hS:St w0 F0 (ps) w) (hm:choose_word.m k i0 i1=some r0) :
    Calls Tryz.prog 22 #[.agg #[nI (i0.id),nI (i0.status),nI (i0.pc),nI (i0.a),nI (i0.b),nI (i0.c),nI (i0.d),nI (i0.e),nI (i0.f),nI (i0.sudogs)],nI i1] w fun e w'=>e=.returned (.int .i64 r0)∧St w0 F0 (ps) w':=by
 refine ev_enterL 16 [.agg #[nI (i0.id),nI (i0.status),nI (i0.pc),nI (i0.a),nI (i0.b),nI (i0.c),nI (i0.d),nI (i0.e),nI (i0.f),nI (i0.sudogs)],nI i1] Tryz.func22 rfl rfl (by simp) ?_
 intro a hF
 have hF0:Fr 16 a [(0,.agg #[nI (i0.id),nI (i0.status),nI (i0.pc),nI (i0.a),nI (i0.b),nI (i0.c),nI (i0.d),nI (i0.e),nI (i0.f),nI (i0.sudogs)]),(1,nI i1)]:=hF; clear hF
 unfold choose_word.m at hm
 refine wp_seq (wp_region_lit ?_)
 refine ev_runs 1 hF0 (l':=[(2,nB w),(0,.agg #[nI (i0.id),nI (i0.status),nI (i0.pc),nI (i0.a),nI (i0.b),nI (i0.c),nI (i0.d),nI (i0.e),nI (i0.f),nI (i0.sudogs)]),(1,nI i1)]) (w':=w.alloc (.cells #[nI (i0.id),nI (i0.status),nI (i0.pc),nI (i0.a),nI (i0.b),nI (i0.c),nI (i0.d),nI (i0.e),nI (i0.f),nI (i0.sudogs)] 29)) (by kernel_rfl) ?_
 intro a2 hF1; clear hF0
 have hS4:St w0 F0 (BlkP (w.heap.size) 29 #[nI (i0.id),nI (i0.status),nI (i0.pc),nI (i0.a),nI (i0.b),nI (i0.c),nI (i0.d),nI (i0.e),nI (i0.f),nI (i0.sudogs)]::ps) (w.alloc (.cells #[nI (i0.id),nI (i0.status),nI (i0.pc),nI (i0.a),nI (i0.b),nI (i0.c),nI (i0.d),nI (i0.e),nI (i0.f),nI (i0.sudogs)] 29)):=St.new hS #[nI (i0.id),nI (i0.status),nI (i0.pc),nI (i0.a),nI (i0.b),nI (i0.c),nI (i0.d),nI (i0.e),nI (i0.f),nI (i0.sudogs)] 29
 refine ev_runK 1 hF1 [1,2] (l':=[(2,nB w),(1,nI i1)]) (w':=w.alloc (.cells #[nI (i0.id),nI (i0.status),nI (i0.pc),nI (i0.a),nI (i0.b),nI (i0.c),nI (i0.d),nI (i0.e),nI (i0.f),nI (i0.sudogs)] 29)) (by kernel_rfl) ?_
 intro a6 hF5; clear hF1
 refine wpList_nil (thenN (wp_seq (wp_seq ?_)))
 refine joinQ (fun aI wI=>∃ (y7:Bool),Fr 16 aI [(10,.bool (y7)),(2,nB w),(1,nI i1)]∧St w0 F0 (BlkP (w.heap.size) 29 #[nI (i0.id),nI (i0.status),nI (i0.pc),nI (i0.a),nI (i0.b),nI (i0.c),nI (i0.d),nI (i0.e),nI (i0.f),nI (i0.sudogs)]::ps) wI∧choose_word.j1 i0 i1 y7=some r0) ?_ ?_
 rotate_left
 · rintro a9 w10 ⟨y7,hF11,hS12,hm13⟩
   clear hF5 hS4 hm
   unfold choose_word.j1 at hm13
   refine thenN ?_
   cases hc15:(y7)
   case true =>
    rw [hc15] at hF11
    have hm16:=ifYes hc15 hm13; clear hm13
    refine ev_condT hF11 rfl rfl ?_
    refine wp_seq (wp_region_lit ?_)
    refine ev_call 29 #[nI 0] hF11 rfl rfl (by kernel_rfl) rfl (by kernel_rfl) (fun w=>by kernel_rfl) ?_
    refine (p_vInt hS12).mono ?_
    rintro _ w17 ⟨rfl,hS19⟩ a18 hF20; clear hF11 hS12
    refine ev_runK 1 hF20 [4] (l':=[(4,nI (wrap64 (2 * 0)))]) (w':=w17) (by kernel_rfl) ?_
    intro a22 hF21; clear hF20
    refine wpList_nil ?_
    have hS23:=hS19.drop
    clear hS19
    refine thenN ?_
    refine wp_ret ?_
    refine thenR ?_
    obtain rfl:=Option.some.inj hm16
    refine ev_ret hF21 [4] (nI (wrap64 (2 * 0))) rfl rfl rfl ?_
    exact ⟨rfl,hS23⟩
   rw [hc15] at hF11
   have hm25:=ifNot hc15 hm13; clear hm13
   refine ev_condF hF11 rfl rfl ?_
   refine wp_skip ?_
   have hF26:=hF11.keep [1,2]
   clear hF11
   refine thenN (wp_seq (wp_region_lit ?_))
   refine ev_runs 2 hF26 (l':=[(13,nP (w.heap.size) 3),(12,nI i1),(2,nB w),(1,nI i1)]) (w':=w10) (by kernel_rfl) ?_
   intro a28 hF27; clear hF26
   obtain ⟨hc29,hm30⟩:=ifTE hm25; clear hm25
   refine ev_one (nP (w.heap.size) ((3+i1.toNat))) w10 hF27 (by kernel_rfl) rfl (by kernel_rfl) (run_idxA (sz:=1) (q:=i1) rfl rfl rfl rfl rfl (inR_spec hc29).1 (inR_spec hc29).2 (by rw [Nat.mul_one]) _) (l':=[(14,nP (w.heap.size) ((3+i1.toNat))),(13,nP (w.heap.size) 3),(12,nI i1),(2,nB w),(1,nI i1)]) (by kernel_rfl) ?_
   intro a32 hF31; clear hF27
   refine ev_one (nI (atI [i0.a,i0.b,i0.c,i0.d,i0.e,i0.f] i1)) w10 hF31 (by kernel_rfl) rfl (by kernel_rfl) (run_load1 rfl rfl rfl (St.arrAt hS12 0 rfl 3 [i0.a,i0.b,i0.c,i0.d,i0.e,i0.f] rfl hc29)) (l':=[(15,nI (atI [i0.a,i0.b,i0.c,i0.d,i0.e,i0.f] i1)),(14,nP (w.heap.size) ((3+i1.toNat))),(13,nP (w.heap.size) 3),(12,nI i1),(2,nB w),(1,nI i1)]) (by kernel_rfl) ?_
   intro a34 hF33; clear hF31
   refine ev_runK 1 hF33 [4] (l':=[(4,nI (atI [i0.a,i0.b,i0.c,i0.d,i0.e,i0.f] i1))]) (w':=w10) (by kernel_rfl) ?_
   intro a36 hF35; clear hF33
   refine wpList_nil ?_
   have hS37:=hS12.drop
   clear hS12
   refine thenN ?_
   refine wp_ret ?_
   obtain rfl:=Option.some.inj hm30
   refine ev_ret hF35 [4] (nI (atI [i0.a,i0.b,i0.c,i0.d,i0.e,i0.f] i1)) rfl rfl rfl ?_
   exact ⟨rfl,hS37⟩
 · skip
   refine wp_region_lit ?_
   refine ev_runs 3 hF5 (l':=[(7,.bool (decide (i1<0))),(6,.bool (decide (i1<0))),(5,nI i1),(2,nB w),(1,nI i1)]) (w':=w.alloc (.cells #[nI (i0.id),nI (i0.status),nI (i0.pc),nI (i0.a),nI (i0.b),nI (i0.c),nI (i0.d),nI (i0.e),nI (i0.f),nI (i0.sudogs)] 29)) (by kernel_rfl) ?_
   intro a40 hF39; clear hF5
   cases hc41:(decide (i1<0))
   case true =>
    rw [hc41] at hF39
    have hm42:=ifYes hc41 hm; clear hm
    refine ev_runK 3 hF39 [1,2,10] (l':=[(10,.bool true),(2,nB w),(1,nI i1)]) (w':=w.alloc (.cells #[nI (i0.id),nI (i0.status),nI (i0.pc),nI (i0.a),nI (i0.b),nI (i0.c),nI (i0.d),nI (i0.e),nI (i0.f),nI (i0.sudogs)] 29)) (by kernel_rfl) ?_
    intro a44 hF43; clear hF39
    refine wpList_nil ?_
    exact thenN ⟨true,hF43,hS4,hm42⟩
   rw [hc41] at hF39
   have hm45:=ifNot hc41 hm; clear hm
   refine ev_runK 3 hF39 [1,2,10] (l':=[(10,.bool (decide (i1 ≥ 6))),(2,nB w),(1,nI i1)]) (w':=w.alloc (.cells #[nI (i0.id),nI (i0.status),nI (i0.pc),nI (i0.a),nI (i0.b),nI (i0.c),nI (i0.d),nI (i0.e),nI (i0.f),nI (i0.sudogs)] 29)) (by kernel_rfl) ?_
   intro a47 hF46; clear hF39
   refine wpList_nil ?_
   exact thenN ⟨decide (i1 ≥ 6),hF46,hS4,hm45⟩
def choose_of.m (k:Nat) (i0:Gr) (i1:Cs):Option (Option (Int ⊕ (Int ⊕ Unit))):=(if (i1.kind == 1) then bind1 (choose_word.m k (⟨i0.id,i0.status,i0.pc,i0.a,i0.b,i0.c,i0.d,i0.e,i0.f,i0.sudogs⟩:Gr) i1.ch) fun x26=>some ((some (.inl x26))) else (if (i1.kind == 2) then bind1 (choose_word.m k (⟨i0.id,i0.status,i0.pc,i0.a,i0.b,i0.c,i0.d,i0.e,i0.f,i0.sudogs⟩:Gr) i1.ch) fun x48=>some ((some (.inr (.inl x48)))) else (if (i1.kind == 3) then some ((some (.inr (.inr ())))) else some (none))))
theorem choose_of.ok {w0 w:World} {F0:List Nat} {ps:List Piece} {k:Nat} {i0:Gr} {i1:Cs} {r0:Option (Int ⊕ (Int ⊕ Unit))} (hS:St w0 F0 (ps) w) (hm:choose_of.m k i0 i1=some r0) :
    Calls Tryz.prog 19 #[.agg #[nI (i0.id),nI (i0.status),nI (i0.pc),nI (i0.a),nI (i0.b),nI (i0.c),nI (i0.d),nI (i0.e),nI (i0.f),nI (i0.sudogs)],.agg #[nI (i1.kind),nI (i1.ch),nI (i1.reg),nI (i1.to)]] w fun e w'=>e=.returned (oChV 88 89 57 r0)∧St w0 F0 (ps) w':=by
 refine ev_enterL 27 [.agg #[nI (i0.id),nI (i0.status),nI (i0.pc),nI (i0.a),nI (i0.b),nI (i0.c),nI (i0.d),nI (i0.e),nI (i0.f),nI (i0.sudogs)],.agg #[nI (i1.kind),nI (i1.ch),nI (i1.reg),nI (i1.to)]] Tryz.func19 rfl rfl (by simp) ?_
 intro a hF
 have hF0:Fr 27 a [(0,.agg #[nI (i0.id),nI (i0.status),nI (i0.pc),nI (i0.a),nI (i0.b),nI (i0.c),nI (i0.d),nI (i0.e),nI (i0.f),nI (i0.sudogs)]),(1,.agg #[nI (i1.kind),nI (i1.ch),nI (i1.reg),nI (i1.to)])]:=hF; clear hF
 unfold choose_of.m at hm
 refine wp_seq (wp_region_lit ?_)
 refine ev_runs 1 hF0 (l':=[(2,nB w),(0,.agg #[nI (i0.id),nI (i0.status),nI (i0.pc),nI (i0.a),nI (i0.b),nI (i0.c),nI (i0.d),nI (i0.e),nI (i0.f),nI (i0.sudogs)]),(1,.agg #[nI (i1.kind),nI (i1.ch),nI (i1.reg),nI (i1.to)])]) (w':=w.alloc (.cells #[nI (i0.id),nI (i0.status),nI (i0.pc),nI (i0.a),nI (i0.b),nI (i0.c),nI (i0.d),nI (i0.e),nI (i0.f),nI (i0.sudogs)] 29)) (by kernel_rfl) ?_
 intro a2 hF1; clear hF0
 have hS4:St w0 F0 (BlkP (w.heap.size) 29 #[nI (i0.id),nI (i0.status),nI (i0.pc),nI (i0.a),nI (i0.b),nI (i0.c),nI (i0.d),nI (i0.e),nI (i0.f),nI (i0.sudogs)]::ps) (w.alloc (.cells #[nI (i0.id),nI (i0.status),nI (i0.pc),nI (i0.a),nI (i0.b),nI (i0.c),nI (i0.d),nI (i0.e),nI (i0.f),nI (i0.sudogs)] 29)):=St.new hS #[nI (i0.id),nI (i0.status),nI (i0.pc),nI (i0.a),nI (i0.b),nI (i0.c),nI (i0.d),nI (i0.e),nI (i0.f),nI (i0.sudogs)] 29
 refine ev_runs 1 hF1 (l':=[(3,nP ((w.alloc (.cells #[nI (i0.id),nI (i0.status),nI (i0.pc),nI (i0.a),nI (i0.b),nI (i0.c),nI (i0.d),nI (i0.e),nI (i0.f),nI (i0.sudogs)] 29)).heap.size) 0),(2,nB w),(0,.agg #[nI (i0.id),nI (i0.status),nI (i0.pc),nI (i0.a),nI (i0.b),nI (i0.c),nI (i0.d),nI (i0.e),nI (i0.f),nI (i0.sudogs)]),(1,.agg #[nI (i1.kind),nI (i1.ch),nI (i1.reg),nI (i1.to)])]) (w':=(w.alloc (.cells #[nI (i0.id),nI (i0.status),nI (i0.pc),nI (i0.a),nI (i0.b),nI (i0.c),nI (i0.d),nI (i0.e),nI (i0.f),nI (i0.sudogs)] 29)).alloc (.cells #[nI (i1.kind),nI (i1.ch),nI (i1.reg),nI (i1.to)] 33)) (by kernel_rfl) ?_
 intro a6 hF5; clear hF1
 have hS8:St w0 F0 (BlkP ((w.alloc (.cells #[nI (i0.id),nI (i0.status),nI (i0.pc),nI (i0.a),nI (i0.b),nI (i0.c),nI (i0.d),nI (i0.e),nI (i0.f),nI (i0.sudogs)] 29)).heap.size) 33 #[nI (i1.kind),nI (i1.ch),nI (i1.reg),nI (i1.to)]::BlkP (w.heap.size) 29 #[nI (i0.id),nI (i0.status),nI (i0.pc),nI (i0.a),nI (i0.b),nI (i0.c),nI (i0.d),nI (i0.e),nI (i0.f),nI (i0.sudogs)]::ps) ((w.alloc (.cells #[nI (i0.id),nI (i0.status),nI (i0.pc),nI (i0.a),nI (i0.b),nI (i0.c),nI (i0.d),nI (i0.e),nI (i0.f),nI (i0.sudogs)] 29)).alloc (.cells #[nI (i1.kind),nI (i1.ch),nI (i1.reg),nI (i1.to)] 33)):=St.new hS4 #[nI (i1.kind),nI (i1.ch),nI (i1.reg),nI (i1.to)] 33
 clear hS4
 refine ev_runK 1 hF5 [2,3] (l':=[(3,nP ((w.alloc (.cells #[nI (i0.id),nI (i0.status),nI (i0.pc),nI (i0.a),nI (i0.b),nI (i0.c),nI (i0.d),nI (i0.e),nI (i0.f),nI (i0.sudogs)] 29)).heap.size) 0),(2,nB w)]) (w':=(w.alloc (.cells #[nI (i0.id),nI (i0.status),nI (i0.pc),nI (i0.a),nI (i0.b),nI (i0.c),nI (i0.d),nI (i0.e),nI (i0.f),nI (i0.sudogs)] 29)).alloc (.cells #[nI (i1.kind),nI (i1.ch),nI (i1.reg),nI (i1.to)] 33)) (by kernel_rfl) ?_
 intro a10 hF9; clear hF5
 refine wpList_nil (thenN (wp_seq (wp_seq (wp_region_lit ?_))))
 refine ev_runs 1 hF9 (l':=[(5,nP ((w.alloc (.cells #[nI (i0.id),nI (i0.status),nI (i0.pc),nI (i0.a),nI (i0.b),nI (i0.c),nI (i0.d),nI (i0.e),nI (i0.f),nI (i0.sudogs)] 29)).heap.size) 0),(3,nP ((w.alloc (.cells #[nI (i0.id),nI (i0.status),nI (i0.pc),nI (i0.a),nI (i0.b),nI (i0.c),nI (i0.d),nI (i0.e),nI (i0.f),nI (i0.sudogs)] 29)).heap.size) 0),(2,nB w)]) (w':=(w.alloc (.cells #[nI (i0.id),nI (i0.status),nI (i0.pc),nI (i0.a),nI (i0.b),nI (i0.c),nI (i0.d),nI (i0.e),nI (i0.f),nI (i0.sudogs)] 29)).alloc (.cells #[nI (i1.kind),nI (i1.ch),nI (i1.reg),nI (i1.to)] 33)) (by kernel_rfl) ?_
 intro a12 hF11; clear hF9
 refine ev_one (nI (i1.kind)) ((w.alloc (.cells #[nI (i0.id),nI (i0.status),nI (i0.pc),nI (i0.a),nI (i0.b),nI (i0.c),nI (i0.d),nI (i0.e),nI (i0.f),nI (i0.sudogs)] 29)).alloc (.cells #[nI (i1.kind),nI (i1.ch),nI (i1.reg),nI (i1.to)] 33)) hF11 (by kernel_rfl) rfl (by kernel_rfl) (run_loadV rfl rfl (run_loadS rfl rfl (hS8.cell 0 rfl 0 rfl))) (l':=[(6,nI (i1.kind)),(5,nP ((w.alloc (.cells #[nI (i0.id),nI (i0.status),nI (i0.pc),nI (i0.a),nI (i0.b),nI (i0.c),nI (i0.d),nI (i0.e),nI (i0.f),nI (i0.sudogs)] 29)).heap.size) 0),(3,nP ((w.alloc (.cells #[nI (i0.id),nI (i0.status),nI (i0.pc),nI (i0.a),nI (i0.b),nI (i0.c),nI (i0.d),nI (i0.e),nI (i0.f),nI (i0.sudogs)] 29)).heap.size) 0),(2,nB w)]) (by kernel_rfl) ?_
 intro a14 hF13; clear hF11
 refine wpList_nil ?_
 have hF15:=hF13.keep [2,3,6]
 clear hF13
 refine thenN ?_
 refine wp_block ?_
 refine wp_seq (wp_region_lit ?_)
 refine ev_runK 2 hF15 [2,3,6,7] (l':=[(7,.bool (i1.kind == 1)),(6,nI (i1.kind)),(3,nP ((w.alloc (.cells #[nI (i0.id),nI (i0.status),nI (i0.pc),nI (i0.a),nI (i0.b),nI (i0.c),nI (i0.d),nI (i0.e),nI (i0.f),nI (i0.sudogs)] 29)).heap.size) 0),(2,nB w)]) (w':=(w.alloc (.cells #[nI (i0.id),nI (i0.status),nI (i0.pc),nI (i0.a),nI (i0.b),nI (i0.c),nI (i0.d),nI (i0.e),nI (i0.f),nI (i0.sudogs)] 29)).alloc (.cells #[nI (i1.kind),nI (i1.ch),nI (i1.reg),nI (i1.to)] 33)) (by kernel_rfl) ?_
 intro a17 hF16; clear hF15
 refine wpList_nil (thenN ?_)
 cases hc18:(i1.kind == 1)
 case true =>
  rw [hc18] at hF16
  have hm19:=ifYes hc18 hm; clear hm
  refine ev_condT hF16 rfl rfl ?_
  refine wp_seq (wp_region_lit ?_)
  refine ev_one (.agg #[nI (i0.id),nI (i0.status),nI (i0.pc),nI (i0.a),nI (i0.b),nI (i0.c),nI (i0.d),nI (i0.e),nI (i0.f),nI (i0.sudogs)]) ((w.alloc (.cells #[nI (i0.id),nI (i0.status),nI (i0.pc),nI (i0.a),nI (i0.b),nI (i0.c),nI (i0.d),nI (i0.e),nI (i0.f),nI (i0.sudogs)] 29)).alloc (.cells #[nI (i1.kind),nI (i1.ch),nI (i1.reg),nI (i1.to)] 33)) hF16 (by kernel_rfl) rfl (by kernel_rfl) (run_loadV rfl rfl (run_loadA (cs:=[nI (i0.id),nI (i0.status),nI (i0.pc),nI (i0.a),nI (i0.b),nI (i0.c),nI (i0.d),nI (i0.e),nI (i0.f),nI (i0.sudogs)]) rfl rfl (by kernel_rfl) (blk_cells hS8 1 rfl rfl))) (l':=[(9,.agg #[nI (i0.id),nI (i0.status),nI (i0.pc),nI (i0.a),nI (i0.b),nI (i0.c),nI (i0.d),nI (i0.e),nI (i0.f),nI (i0.sudogs)]),(7,.bool true),(6,nI (i1.kind)),(3,nP ((w.alloc (.cells #[nI (i0.id),nI (i0.status),nI (i0.pc),nI (i0.a),nI (i0.b),nI (i0.c),nI (i0.d),nI (i0.e),nI (i0.f),nI (i0.sudogs)] 29)).heap.size) 0),(2,nB w)]) (by kernel_rfl) ?_
  intro a21 hF20; clear hF16
  refine ev_runs 1 hF20 (l':=[(10,nP ((w.alloc (.cells #[nI (i0.id),nI (i0.status),nI (i0.pc),nI (i0.a),nI (i0.b),nI (i0.c),nI (i0.d),nI (i0.e),nI (i0.f),nI (i0.sudogs)] 29)).heap.size) 1),(9,.agg #[nI (i0.id),nI (i0.status),nI (i0.pc),nI (i0.a),nI (i0.b),nI (i0.c),nI (i0.d),nI (i0.e),nI (i0.f),nI (i0.sudogs)]),(7,.bool true),(6,nI (i1.kind)),(3,nP ((w.alloc (.cells #[nI (i0.id),nI (i0.status),nI (i0.pc),nI (i0.a),nI (i0.b),nI (i0.c),nI (i0.d),nI (i0.e),nI (i0.f),nI (i0.sudogs)] 29)).heap.size) 0),(2,nB w)]) (w':=(w.alloc (.cells #[nI (i0.id),nI (i0.status),nI (i0.pc),nI (i0.a),nI (i0.b),nI (i0.c),nI (i0.d),nI (i0.e),nI (i0.f),nI (i0.sudogs)] 29)).alloc (.cells #[nI (i1.kind),nI (i1.ch),nI (i1.reg),nI (i1.to)] 33)) (by kernel_rfl) ?_
  intro a23 hF22; clear hF20
  refine ev_one (nI (i1.ch)) ((w.alloc (.cells #[nI (i0.id),nI (i0.status),nI (i0.pc),nI (i0.a),nI (i0.b),nI (i0.c),nI (i0.d),nI (i0.e),nI (i0.f),nI (i0.sudogs)] 29)).alloc (.cells #[nI (i1.kind),nI (i1.ch),nI (i1.reg),nI (i1.to)] 33)) hF22 (by kernel_rfl) rfl (by kernel_rfl) (run_loadV rfl rfl (run_loadS rfl rfl (hS8.cell 0 rfl 1 rfl))) (l':=[(11,nI (i1.ch)),(10,nP ((w.alloc (.cells #[nI (i0.id),nI (i0.status),nI (i0.pc),nI (i0.a),nI (i0.b),nI (i0.c),nI (i0.d),nI (i0.e),nI (i0.f),nI (i0.sudogs)] 29)).heap.size) 1),(9,.agg #[nI (i0.id),nI (i0.status),nI (i0.pc),nI (i0.a),nI (i0.b),nI (i0.c),nI (i0.d),nI (i0.e),nI (i0.f),nI (i0.sudogs)]),(7,.bool true),(6,nI (i1.kind)),(3,nP ((w.alloc (.cells #[nI (i0.id),nI (i0.status),nI (i0.pc),nI (i0.a),nI (i0.b),nI (i0.c),nI (i0.d),nI (i0.e),nI (i0.f),nI (i0.sudogs)] 29)).heap.size) 0),(2,nB w)]) (by kernel_rfl) ?_
  intro a25 hF24; clear hF22
  refine ev_call 22 #[.agg #[nI (i0.id),nI (i0.status),nI (i0.pc),nI (i0.a),nI (i0.b),nI (i0.c),nI (i0.d),nI (i0.e),nI (i0.f),nI (i0.sudogs)],nI (i1.ch)] hF24 rfl rfl (by kernel_rfl) rfl (by kernel_rfl) (fun w=>by kernel_rfl) ?_
  obtain ⟨x26,hx27,hm28⟩:=bind1E hm19; clear hm19
  refine (choose_word.ok hS8 hx27).mono ?_
  rintro _ w29 ⟨rfl,hS31⟩ a30 hF32; clear hF24 hS8
  refine ev_runK 3 hF32 [4] (l':=[(4,.iface 88 (.agg #[nI x26]))]) (w':=w29) (by kernel_rfl) ?_
  intro a34 hF33; clear hF32
  refine wpList_nil ?_
  have hS35:=hS31.drop.drop
  clear hS31
  refine thenN ?_
  refine wp_ret ?_
  refine blockR ?_
  refine thenR ?_
  obtain rfl:=Option.some.inj hm28
  refine ev_ret hF33 [4] (.iface 88 (.agg #[nI x26])) rfl rfl rfl ?_
  exact ⟨rfl,hS35⟩
 rw [hc18] at hF16
 have hm37:=ifNot hc18 hm; clear hm
 refine ev_condF hF16 rfl rfl ?_
 refine wp_seq (wp_region_lit ?_)
 refine ev_runK 2 hF16 [2,3,6,15] (l':=[(15,.bool (i1.kind == 2)),(6,nI (i1.kind)),(3,nP ((w.alloc (.cells #[nI (i0.id),nI (i0.status),nI (i0.pc),nI (i0.a),nI (i0.b),nI (i0.c),nI (i0.d),nI (i0.e),nI (i0.f),nI (i0.sudogs)] 29)).heap.size) 0),(2,nB w)]) (w':=(w.alloc (.cells #[nI (i0.id),nI (i0.status),nI (i0.pc),nI (i0.a),nI (i0.b),nI (i0.c),nI (i0.d),nI (i0.e),nI (i0.f),nI (i0.sudogs)] 29)).alloc (.cells #[nI (i1.kind),nI (i1.ch),nI (i1.reg),nI (i1.to)] 33)) (by kernel_rfl) ?_
 intro a39 hF38; clear hF16
 refine wpList_nil (thenN ?_)
 cases hc40:(i1.kind == 2)
 case true =>
  rw [hc40] at hF38
  have hm41:=ifYes hc40 hm37; clear hm37
  refine ev_condT hF38 rfl rfl ?_
  refine wp_seq (wp_region_lit ?_)
  refine ev_one (.agg #[nI (i0.id),nI (i0.status),nI (i0.pc),nI (i0.a),nI (i0.b),nI (i0.c),nI (i0.d),nI (i0.e),nI (i0.f),nI (i0.sudogs)]) ((w.alloc (.cells #[nI (i0.id),nI (i0.status),nI (i0.pc),nI (i0.a),nI (i0.b),nI (i0.c),nI (i0.d),nI (i0.e),nI (i0.f),nI (i0.sudogs)] 29)).alloc (.cells #[nI (i1.kind),nI (i1.ch),nI (i1.reg),nI (i1.to)] 33)) hF38 (by kernel_rfl) rfl (by kernel_rfl) (run_loadV rfl rfl (run_loadA (cs:=[nI (i0.id),nI (i0.status),nI (i0.pc),nI (i0.a),nI (i0.b),nI (i0.c),nI (i0.d),nI (i0.e),nI (i0.f),nI (i0.sudogs)]) rfl rfl (by kernel_rfl) (blk_cells hS8 1 rfl rfl))) (l':=[(17,.agg #[nI (i0.id),nI (i0.status),nI (i0.pc),nI (i0.a),nI (i0.b),nI (i0.c),nI (i0.d),nI (i0.e),nI (i0.f),nI (i0.sudogs)]),(15,.bool true),(6,nI (i1.kind)),(3,nP ((w.alloc (.cells #[nI (i0.id),nI (i0.status),nI (i0.pc),nI (i0.a),nI (i0.b),nI (i0.c),nI (i0.d),nI (i0.e),nI (i0.f),nI (i0.sudogs)] 29)).heap.size) 0),(2,nB w)]) (by kernel_rfl) ?_
  intro a43 hF42; clear hF38
  refine ev_runs 1 hF42 (l':=[(18,nP ((w.alloc (.cells #[nI (i0.id),nI (i0.status),nI (i0.pc),nI (i0.a),nI (i0.b),nI (i0.c),nI (i0.d),nI (i0.e),nI (i0.f),nI (i0.sudogs)] 29)).heap.size) 1),(17,.agg #[nI (i0.id),nI (i0.status),nI (i0.pc),nI (i0.a),nI (i0.b),nI (i0.c),nI (i0.d),nI (i0.e),nI (i0.f),nI (i0.sudogs)]),(15,.bool true),(6,nI (i1.kind)),(3,nP ((w.alloc (.cells #[nI (i0.id),nI (i0.status),nI (i0.pc),nI (i0.a),nI (i0.b),nI (i0.c),nI (i0.d),nI (i0.e),nI (i0.f),nI (i0.sudogs)] 29)).heap.size) 0),(2,nB w)]) (w':=(w.alloc (.cells #[nI (i0.id),nI (i0.status),nI (i0.pc),nI (i0.a),nI (i0.b),nI (i0.c),nI (i0.d),nI (i0.e),nI (i0.f),nI (i0.sudogs)] 29)).alloc (.cells #[nI (i1.kind),nI (i1.ch),nI (i1.reg),nI (i1.to)] 33)) (by kernel_rfl) ?_
  intro a45 hF44; clear hF42
  refine ev_one (nI (i1.ch)) ((w.alloc (.cells #[nI (i0.id),nI (i0.status),nI (i0.pc),nI (i0.a),nI (i0.b),nI (i0.c),nI (i0.d),nI (i0.e),nI (i0.f),nI (i0.sudogs)] 29)).alloc (.cells #[nI (i1.kind),nI (i1.ch),nI (i1.reg),nI (i1.to)] 33)) hF44 (by kernel_rfl) rfl (by kernel_rfl) (run_loadV rfl rfl (run_loadS rfl rfl (hS8.cell 0 rfl 1 rfl))) (l':=[(19,nI (i1.ch)),(18,nP ((w.alloc (.cells #[nI (i0.id),nI (i0.status),nI (i0.pc),nI (i0.a),nI (i0.b),nI (i0.c),nI (i0.d),nI (i0.e),nI (i0.f),nI (i0.sudogs)] 29)).heap.size) 1),(17,.agg #[nI (i0.id),nI (i0.status),nI (i0.pc),nI (i0.a),nI (i0.b),nI (i0.c),nI (i0.d),nI (i0.e),nI (i0.f),nI (i0.sudogs)]),(15,.bool true),(6,nI (i1.kind)),(3,nP ((w.alloc (.cells #[nI (i0.id),nI (i0.status),nI (i0.pc),nI (i0.a),nI (i0.b),nI (i0.c),nI (i0.d),nI (i0.e),nI (i0.f),nI (i0.sudogs)] 29)).heap.size) 0),(2,nB w)]) (by kernel_rfl) ?_
  intro a47 hF46; clear hF44
  refine ev_call 22 #[.agg #[nI (i0.id),nI (i0.status),nI (i0.pc),nI (i0.a),nI (i0.b),nI (i0.c),nI (i0.d),nI (i0.e),nI (i0.f),nI (i0.sudogs)],nI (i1.ch)] hF46 rfl rfl (by kernel_rfl) rfl (by kernel_rfl) (fun w=>by kernel_rfl) ?_
  obtain ⟨x48,hx49,hm50⟩:=bind1E hm41; clear hm41
  refine (choose_word.ok hS8 hx49).mono ?_
  rintro _ w51 ⟨rfl,hS53⟩ a52 hF54; clear hF46 hS8
  refine ev_runK 3 hF54 [4] (l':=[(4,.iface 89 (.agg #[nI x48]))]) (w':=w51) (by kernel_rfl) ?_
  intro a56 hF55; clear hF54
  refine wpList_nil ?_
  have hS57:=hS53.drop.drop
  clear hS53
  refine thenN ?_
  refine wp_ret ?_
  refine blockR ?_
  refine thenR ?_
  obtain rfl:=Option.some.inj hm50
  refine ev_ret hF55 [4] (.iface 89 (.agg #[nI x48])) rfl rfl rfl ?_
  exact ⟨rfl,hS57⟩
 rw [hc40] at hF38
 have hm59:=ifNot hc40 hm37; clear hm37
 refine ev_condF hF38 rfl rfl ?_
 refine wp_seq (wp_region_lit ?_)
 refine ev_runK 2 hF38 [23] (l':=[(23,.bool (i1.kind == 3))]) (w':=(w.alloc (.cells #[nI (i0.id),nI (i0.status),nI (i0.pc),nI (i0.a),nI (i0.b),nI (i0.c),nI (i0.d),nI (i0.e),nI (i0.f),nI (i0.sudogs)] 29)).alloc (.cells #[nI (i1.kind),nI (i1.ch),nI (i1.reg),nI (i1.to)] 33)) (by kernel_rfl) ?_
 intro a61 hF60; clear hF38
 refine wpList_nil ?_
 have hS62:=hS8.drop.drop
 clear hS8
 refine thenN ?_
 cases hc63:(i1.kind == 3)
 case true =>
  rw [hc63] at hF60
  have hm64:=ifYes hc63 hm59; clear hm59
  refine ev_condT hF60 rfl rfl ?_
  refine wp_seq (wp_region_lit ?_)
  refine ev_runK 3 hF60 [4] (l':=[(4,.iface 57 (.agg #[]))]) (w':=(w.alloc (.cells #[nI (i0.id),nI (i0.status),nI (i0.pc),nI (i0.a),nI (i0.b),nI (i0.c),nI (i0.d),nI (i0.e),nI (i0.f),nI (i0.sudogs)] 29)).alloc (.cells #[nI (i1.kind),nI (i1.ch),nI (i1.reg),nI (i1.to)] 33)) (by kernel_rfl) ?_
  intro a66 hF65; clear hF60
  refine wpList_nil (thenN ?_)
  refine wp_ret ?_
  refine blockR ?_
  refine thenR ?_
  obtain rfl:=Option.some.inj hm64
  refine ev_ret hF65 [4] (.iface 57 (.agg #[])) rfl rfl rfl ?_
  exact ⟨rfl,hS62⟩
 rw [hc63] at hF60
 have hm68:=ifNot hc63 hm59; clear hm59
 refine ev_condF hF60 rfl rfl ?_
 refine wp_skip ?_
 have hF69:=hF60.keep []
 clear hF60
 refine blockN ?_
 refine thenN (wp_seq (wp_region_lit ?_))
 refine ev_runs 1 hF69 (l':=[(4,.nilIface)]) (w':=(w.alloc (.cells #[nI (i0.id),nI (i0.status),nI (i0.pc),nI (i0.a),nI (i0.b),nI (i0.c),nI (i0.d),nI (i0.e),nI (i0.f),nI (i0.sudogs)] 29)).alloc (.cells #[nI (i1.kind),nI (i1.ch),nI (i1.reg),nI (i1.to)] 33)) (by kernel_rfl) ?_
 intro a71 hF70; clear hF69
 refine wpList_nil (thenN ?_)
 refine wp_ret ?_
 obtain rfl:=Option.some.inj hm68
 refine ev_ret hF70 [4] (.nilIface) rfl rfl rfl ?_
 exact ⟨rfl,hS62⟩
def choose_readyS.m (k:Nat) (s0:HSt) (i1:Int):Option (Bool×HSt):=bind2 (send_Ready.m k s0 i1) fun y20 s21=>some (y20,s21)
theorem choose_readyS.ok {w0 w:World} {F0:List Nat} {ps:List Piece} {k:Nat} {b0 ab0:Nat} {s0:HSt} {i1:Int} {r0:Bool} {t0:HSt} (hS:St w0 F0 (HeapP b0 ab0 s0::ps) w) (hm:choose_readyS.m k s0 i1=some (r0,t0)) :
    Calls Tryz.prog 20 #[nP b0 0,.iface 88 (.agg #[nI i1])] w fun e w'=>e=.returned (.bool r0)∧St w0 F0 (HeapP b0 ab0 t0::ps) w':=by
 refine ev_enterL 31 [nP b0 0,.iface 88 (.agg #[nI i1])] Tryz.func20 rfl rfl (by simp) ?_
 intro a hF
 have hF0:Fr 31 a [(0,nP b0 0),(1,.iface 88 (.agg #[nI i1]))]:=hF; clear hF
 unfold choose_readyS.m at hm
 refine wp_seq (wp_region_lit ?_)
 refine ev_runK 1 hF0 [0,1] (l':=[(0,nP b0 0),(1,.iface 88 (.agg #[nI i1]))]) (w':=w) (by kernel_rfl) ?_
 intro a2 hF1; clear hF0
 refine wpList_nil (thenN (wp_seq (wp_seq (wp_region_lit ?_))))
 refine ev_runs 6 hF1 (l':=[(5,nB w),(13,.bool true),(12,.agg #[nI i1]),(9,.tuple #[.agg #[nI i1],.bool true]),(11,.tuple #[.agg #[nI i1],.bool true]),(10,.iface 88 (.agg #[nI i1])),(0,nP b0 0),(1,.iface 88 (.agg #[nI i1]))]) (w':=w.alloc (.cells #[nI 0] 88)) (by kernel_rfl) ?_
 intro a4 hF3; clear hF1
 have hS6:St w0 F0 (BlkP (w.heap.size) 88 #[nI 0]::HeapP b0 ab0 s0::ps) (w.alloc (.cells #[nI 0] 88)):=St.new hS #[nI 0] 88
 refine ev_store (.agg #[nI i1]) #[nI i1] hF3 (by kernel_rfl) rfl rfl rfl rfl (by kernel_rfl) hS6 (by kernel_rfl) (by kernel_rfl) (by kernel_rfl) (l':=[(5,nB w),(13,.bool true),(12,.agg #[nI i1]),(9,.tuple #[.agg #[nI i1],.bool true]),(11,.tuple #[.agg #[nI i1],.bool true]),(10,.iface 88 (.agg #[nI i1])),(0,nP b0 0),(1,.iface 88 (.agg #[nI i1]))]) (by kernel_rfl) ?_
 intro w7 a8 hS9 hF10; clear hF3 hS6
 refine ev_runK 1 hF10 [0,1,5,6] (l':=[(6,.bool true),(5,nB w),(0,nP b0 0),(1,.iface 88 (.agg #[nI i1]))]) (w':=w7) (by kernel_rfl) ?_
 intro a12 hF11; clear hF10
 refine wpList_nil (thenN (wp_seq (wp_region_lit ?_)))
 refine ev_runK 1 hF11 [0,1,5,14] (l':=[(14,.bool true),(5,nB w),(0,nP b0 0),(1,.iface 88 (.agg #[nI i1]))]) (w':=w7) (by kernel_rfl) ?_
 intro a14 hF13; clear hF11
 refine wpList_nil (thenN ?_)
 refine ev_condT hF13 rfl rfl ?_
 refine wp_seq (wp_region_lit ?_)
 refine ev_runs 2 hF13 (l':=[(16,nB w),(15,nP b0 0),(14,.bool true),(5,nB w),(0,nP b0 0),(1,.iface 88 (.agg #[nI i1]))]) (w':=w7) (by kernel_rfl) ?_
 intro a16 hF15; clear hF13
 refine ev_one (nI i1) w7 hF15 (by kernel_rfl) rfl (by kernel_rfl) (run_loadV rfl rfl (run_loadS rfl rfl (hS9.cell 0 rfl 0 rfl))) (l':=[(17,nI i1),(16,nB w),(15,nP b0 0),(14,.bool true),(5,nB w),(0,nP b0 0),(1,.iface 88 (.agg #[nI i1]))]) (by kernel_rfl) ?_
 intro a18 hF17; clear hF15
 have hS19:=hS9.pick1
 clear hS9
 refine ev_call 36 #[nP b0 0,nI i1] hF17 rfl rfl (by kernel_rfl) rfl (by kernel_rfl) (fun w=>by kernel_rfl) ?_
 obtain ⟨y20,s21,hx22,hm23⟩:=bind2E hm; clear hm
 refine (send_Ready.ok hS19 hx22).mono ?_
 rintro _ w24 ⟨rfl,hS26⟩ a25 hF27; clear hF17 hS19
 refine ev_runK 1 hF27 [4] (l':=[(4,.bool (y20))]) (w':=w24) (by kernel_rfl) ?_
 intro a29 hF28; clear hF27
 refine wpList_nil ?_
 have hS30:=hS26.pick1.drop
 clear hS26
 refine thenN ?_
 refine wp_ret ?_
 refine thenR ?_
 simp only [Option.some.injEq,Prod.mk.injEq] at hm23
 obtain ⟨rfl,rfl⟩:=hm23
 refine ev_ret hF28 [4] (.bool (y20)) rfl rfl rfl ?_
 exact ⟨rfl,hS30⟩
def choose_readyT.m (k:Nat) (s0:HSt) (i1:Int):Option (Bool×HSt):=bind2 (take_Ready.m k s0 i1) fun y32 s33=>some (y32,s33)
theorem choose_readyT.ok {w0 w:World} {F0:List Nat} {ps:List Piece} {k:Nat} {b0 ab0:Nat} {s0:HSt} {i1:Int} {r0:Bool} {t0:HSt} (hS:St w0 F0 (HeapP b0 ab0 s0::ps) w) (hm:choose_readyT.m k s0 i1=some (r0,t0)) :
    Calls Tryz.prog 20 #[nP b0 0,.iface 89 (.agg #[nI i1])] w fun e w'=>e=.returned (.bool r0)∧St w0 F0 (HeapP b0 ab0 t0::ps) w':=by
 refine ev_enterL 31 [nP b0 0,.iface 89 (.agg #[nI i1])] Tryz.func20 rfl rfl (by simp) ?_
 intro a hF
 have hF0:Fr 31 a [(0,nP b0 0),(1,.iface 89 (.agg #[nI i1]))]:=hF; clear hF
 unfold choose_readyT.m at hm
 refine wp_seq (wp_region_lit ?_)
 refine ev_runK 1 hF0 [0,1] (l':=[(0,nP b0 0),(1,.iface 89 (.agg #[nI i1]))]) (w':=w) (by kernel_rfl) ?_
 intro a2 hF1; clear hF0
 refine wpList_nil (thenN (wp_seq (wp_seq (wp_region_lit ?_))))
 refine ev_runs 6 hF1 (l':=[(5,nB w),(13,.bool false),(12,.agg #[nI 0]),(9,.tuple #[.agg #[nI 0],.bool false]),(11,.tuple #[.agg #[nI 0],.bool false]),(10,.iface 89 (.agg #[nI i1])),(0,nP b0 0),(1,.iface 89 (.agg #[nI i1]))]) (w':=w.alloc (.cells #[nI 0] 88)) (by kernel_rfl) ?_
 intro a4 hF3; clear hF1
 have hS6:St w0 F0 (BlkP (w.heap.size) 88 #[nI 0]::HeapP b0 ab0 s0::ps) (w.alloc (.cells #[nI 0] 88)):=St.new hS #[nI 0] 88
 refine ev_store (.agg #[nI 0]) #[nI 0] hF3 (by kernel_rfl) rfl rfl rfl rfl (by kernel_rfl) hS6 (by kernel_rfl) (by kernel_rfl) (by kernel_rfl) (l':=[(5,nB w),(13,.bool false),(12,.agg #[nI 0]),(9,.tuple #[.agg #[nI 0],.bool false]),(11,.tuple #[.agg #[nI 0],.bool false]),(10,.iface 89 (.agg #[nI i1])),(0,nP b0 0),(1,.iface 89 (.agg #[nI i1]))]) (by kernel_rfl) ?_
 intro w7 a8 hS9 hF10; clear hF3 hS6
 refine ev_runK 1 hF10 [0,1,5,6] (l':=[(6,.bool false),(5,nB w),(0,nP b0 0),(1,.iface 89 (.agg #[nI i1]))]) (w':=w7) (by kernel_rfl) ?_
 intro a12 hF11; clear hF10
 refine wpList_nil (thenN (wp_seq (wp_region_lit ?_)))
 refine ev_runK 1 hF11 [0,1,5,14] (l':=[(14,.bool false),(5,nB w),(0,nP b0 0),(1,.iface 89 (.agg #[nI i1]))]) (w':=w7) (by kernel_rfl) ?_
 intro a14 hF13; clear hF11
 refine wpList_nil (thenN ?_)
 refine ev_condF hF13 rfl rfl ?_
 refine wp_skip ?_
 have hF15:=hF13.keep [0,1]
 clear hF13
 have hS16:=hS9.drop
 clear hS9
 refine thenN (wp_seq (wp_region_lit ?_))
 refine ev_runs 6 hF15 (l':=[(7,nB w7),(23,.bool true),(22,.agg #[nI i1]),(19,.tuple #[.agg #[nI i1],.bool true]),(21,.tuple #[.agg #[nI i1],.bool true]),(20,.iface 89 (.agg #[nI i1])),(0,nP b0 0),(1,.iface 89 (.agg #[nI i1]))]) (w':=w7.alloc (.cells #[nI 0] 89)) (by kernel_rfl) ?_
 intro a18 hF17; clear hF15
 have hS20:St w0 F0 (BlkP (w7.heap.size) 89 #[nI 0]::HeapP b0 ab0 s0::ps) (w7.alloc (.cells #[nI 0] 89)):=St.new hS16 #[nI 0] 89
 clear hS16
 refine ev_store (.agg #[nI i1]) #[nI i1] hF17 (by kernel_rfl) rfl rfl rfl rfl (by kernel_rfl) hS20 (by kernel_rfl) (by kernel_rfl) (by kernel_rfl) (l':=[(7,nB w7),(23,.bool true),(22,.agg #[nI i1]),(19,.tuple #[.agg #[nI i1],.bool true]),(21,.tuple #[.agg #[nI i1],.bool true]),(20,.iface 89 (.agg #[nI i1])),(0,nP b0 0),(1,.iface 89 (.agg #[nI i1]))]) (by kernel_rfl) ?_
 intro w21 a22 hS23 hF24; clear hF17 hS20
 refine ev_runK 1 hF24 [0,7,8] (l':=[(8,.bool true),(7,nB w7),(0,nP b0 0)]) (w':=w21) (by kernel_rfl) ?_
 intro a26 hF25; clear hF24
 refine wpList_nil (thenN (wp_seq (wp_region_lit ?_)))
 refine ev_runs 4 hF25 (l':=[(27,nB w7),(26,nP b0 0),(25,.bool true),(24,.bool true),(8,.bool true),(7,nB w7),(0,nP b0 0)]) (w':=w21) (by kernel_rfl) ?_
 intro a28 hF27; clear hF25
 refine ev_one (nI i1) w21 hF27 (by kernel_rfl) rfl (by kernel_rfl) (run_loadV rfl rfl (run_loadS rfl rfl (hS23.cell 0 rfl 0 rfl))) (l':=[(28,nI i1),(27,nB w7),(26,nP b0 0),(25,.bool true),(24,.bool true),(8,.bool true),(7,nB w7),(0,nP b0 0)]) (by kernel_rfl) ?_
 intro a30 hF29; clear hF27
 have hS31:=hS23.pick1
 clear hS23
 refine ev_call 37 #[nP b0 0,nI i1] hF29 rfl rfl (by kernel_rfl) rfl (by kernel_rfl) (fun w=>by kernel_rfl) ?_
 obtain ⟨y32,s33,hx34,hm35⟩:=bind2E hm; clear hm
 refine (take_Ready.ok hS31 hx34).mono ?_
 rintro _ w36 ⟨rfl,hS38⟩ a37 hF39; clear hF29 hS31
 refine ev_runK 2 hF39 [4] (l':=[(4,.bool (y32))]) (w':=w36) (by kernel_rfl) ?_
 intro a41 hF40; clear hF39
 refine wpList_nil ?_
 have hS42:=hS38.pick1.drop
 clear hS38
 refine thenN ?_
 refine wp_ret ?_
 simp only [Option.some.injEq,Prod.mk.injEq] at hm35
 obtain ⟨rfl,rfl⟩:=hm35
 refine ev_ret hF40 [4] (.bool (y32)) rfl rfl rfl ?_
 exact ⟨rfl,hS42⟩
def choose_readyO.m (k:Nat) (s0:HSt) (i1:Unit):Option (Bool×HSt):=some (false,s0)
theorem choose_readyO.ok {w0 w:World} {F0:List Nat} {ps:List Piece} {k:Nat} {b0 ab0:Nat} {s0:HSt} {i1:Unit} {r0:Bool} {t0:HSt} (hS:St w0 F0 (HeapP b0 ab0 s0::ps) w) (hm:choose_readyO.m k s0 i1=some (r0,t0)) :
    Calls Tryz.prog 20 #[nP b0 0,.iface 57 (.agg #[])] w fun e w'=>e=.returned (.bool r0)∧St w0 F0 (HeapP b0 ab0 t0::ps) w':=by
 refine ev_enterL 31 [nP b0 0,.iface 57 (.agg #[])] Tryz.func20 rfl rfl (by simp) ?_
 intro a hF
 have hF0:Fr 31 a [(0,nP b0 0),(1,.iface 57 (.agg #[]))]:=hF; clear hF
 unfold choose_readyO.m at hm
 refine wp_seq (wp_region_lit ?_)
 refine ev_runK 1 hF0 [0,1] (l':=[(0,nP b0 0),(1,.iface 57 (.agg #[]))]) (w':=w) (by kernel_rfl) ?_
 intro a2 hF1; clear hF0
 refine wpList_nil (thenN (wp_seq (wp_seq (wp_region_lit ?_))))
 refine ev_runs 6 hF1 (l':=[(5,nB w),(13,.bool false),(12,.agg #[nI 0]),(9,.tuple #[.agg #[nI 0],.bool false]),(11,.tuple #[.agg #[nI 0],.bool false]),(10,.iface 57 (.agg #[])),(0,nP b0 0),(1,.iface 57 (.agg #[]))]) (w':=w.alloc (.cells #[nI 0] 88)) (by kernel_rfl) ?_
 intro a4 hF3; clear hF1
 have hS6:St w0 F0 (BlkP (w.heap.size) 88 #[nI 0]::HeapP b0 ab0 s0::ps) (w.alloc (.cells #[nI 0] 88)):=St.new hS #[nI 0] 88
 refine ev_store (.agg #[nI 0]) #[nI 0] hF3 (by kernel_rfl) rfl rfl rfl rfl (by kernel_rfl) hS6 (by kernel_rfl) (by kernel_rfl) (by kernel_rfl) (l':=[(5,nB w),(13,.bool false),(12,.agg #[nI 0]),(9,.tuple #[.agg #[nI 0],.bool false]),(11,.tuple #[.agg #[nI 0],.bool false]),(10,.iface 57 (.agg #[])),(0,nP b0 0),(1,.iface 57 (.agg #[]))]) (by kernel_rfl) ?_
 intro w7 a8 hS9 hF10; clear hF3 hS6
 refine ev_runK 1 hF10 [0,1,5,6] (l':=[(6,.bool false),(5,nB w),(0,nP b0 0),(1,.iface 57 (.agg #[]))]) (w':=w7) (by kernel_rfl) ?_
 intro a12 hF11; clear hF10
 refine wpList_nil (thenN (wp_seq (wp_region_lit ?_)))
 refine ev_runK 1 hF11 [0,1,5,14] (l':=[(14,.bool false),(5,nB w),(0,nP b0 0),(1,.iface 57 (.agg #[]))]) (w':=w7) (by kernel_rfl) ?_
 intro a14 hF13; clear hF11
 refine wpList_nil (thenN ?_)
 refine ev_condF hF13 rfl rfl ?_
 refine wp_skip ?_
 have hF15:=hF13.keep [0,1]
 clear hF13
 have hS16:=hS9.drop
 clear hS9
 refine thenN (wp_seq (wp_region_lit ?_))
 refine ev_runs 6 hF15 (l':=[(7,nB w7),(23,.bool false),(22,.agg #[nI 0]),(19,.tuple #[.agg #[nI 0],.bool false]),(21,.tuple #[.agg #[nI 0],.bool false]),(20,.iface 57 (.agg #[])),(0,nP b0 0),(1,.iface 57 (.agg #[]))]) (w':=w7.alloc (.cells #[nI 0] 89)) (by kernel_rfl) ?_
 intro a18 hF17; clear hF15
 have hS20:St w0 F0 (BlkP (w7.heap.size) 89 #[nI 0]::HeapP b0 ab0 s0::ps) (w7.alloc (.cells #[nI 0] 89)):=St.new hS16 #[nI 0] 89
 clear hS16
 refine ev_store (.agg #[nI 0]) #[nI 0] hF17 (by kernel_rfl) rfl rfl rfl rfl (by kernel_rfl) hS20 (by kernel_rfl) (by kernel_rfl) (by kernel_rfl) (l':=[(7,nB w7),(23,.bool false),(22,.agg #[nI 0]),(19,.tuple #[.agg #[nI 0],.bool false]),(21,.tuple #[.agg #[nI 0],.bool false]),(20,.iface 57 (.agg #[])),(0,nP b0 0),(1,.iface 57 (.agg #[]))]) (by kernel_rfl) ?_
 intro w21 a22 hS23 hF24; clear hF17 hS20
 refine ev_runK 1 hF24 [0,7,8] (l':=[(8,.bool false),(7,nB w7),(0,nP b0 0)]) (w':=w21) (by kernel_rfl) ?_
 intro a26 hF25; clear hF24
 refine wpList_nil (thenN (wp_seq (wp_region_lit ?_)))
 refine ev_runK 8 hF25 [4] (l':=[(4,.bool false)]) (w':=w21) (by kernel_rfl) ?_
 intro a28 hF27; clear hF25
 refine wpList_nil ?_
 have hS29:=hS23.drop
 clear hS23
 refine thenN ?_
 refine wp_ret ?_
 simp only [Option.some.injEq,Prod.mk.injEq] at hm
 obtain ⟨rfl,rfl⟩:=hm
 refine ev_ret hF27 [4] (.bool false) rfl rfl rfl ?_
 exact ⟨rfl,hS29⟩
def choose_readyN.m (k:Nat) (s0:HSt):Option (Bool×HSt):=some (false,s0)
theorem choose_readyN.ok {w0 w:World} {F0:List Nat} {ps:List Piece} {k:Nat} {b0 ab0:Nat} {s0:HSt} {r0:Bool} {t0:HSt} (hS:St w0 F0 (HeapP b0 ab0 s0::ps) w) (hm:choose_readyN.m k s0=some (r0,t0)) :
    Calls Tryz.prog 20 #[nP b0 0,.nilIface] w fun e w'=>e=.returned (.bool r0)∧St w0 F0 (HeapP b0 ab0 t0::ps) w':=by
 refine ev_enterL 31 [nP b0 0,.nilIface] Tryz.func20 rfl rfl (by simp) ?_
 intro a hF
 have hF0:Fr 31 a [(0,nP b0 0),(1,.nilIface)]:=hF; clear hF
 unfold choose_readyN.m at hm
 refine wp_seq (wp_region_lit ?_)
 refine ev_runK 1 hF0 [0,1] (l':=[(0,nP b0 0),(1,.nilIface)]) (w':=w) (by kernel_rfl) ?_
 intro a2 hF1; clear hF0
 refine wpList_nil (thenN (wp_seq (wp_seq (wp_region_lit ?_))))
 refine ev_runs 6 hF1 (l':=[(5,nB w),(13,.bool false),(12,.agg #[nI 0]),(9,.tuple #[.agg #[nI 0],.bool false]),(11,.tuple #[.agg #[nI 0],.bool false]),(10,.nilIface),(0,nP b0 0),(1,.nilIface)]) (w':=w.alloc (.cells #[nI 0] 88)) (by kernel_rfl) ?_
 intro a4 hF3; clear hF1
 have hS6:St w0 F0 (BlkP (w.heap.size) 88 #[nI 0]::HeapP b0 ab0 s0::ps) (w.alloc (.cells #[nI 0] 88)):=St.new hS #[nI 0] 88
 refine ev_store (.agg #[nI 0]) #[nI 0] hF3 (by kernel_rfl) rfl rfl rfl rfl (by kernel_rfl) hS6 (by kernel_rfl) (by kernel_rfl) (by kernel_rfl) (l':=[(5,nB w),(13,.bool false),(12,.agg #[nI 0]),(9,.tuple #[.agg #[nI 0],.bool false]),(11,.tuple #[.agg #[nI 0],.bool false]),(10,.nilIface),(0,nP b0 0),(1,.nilIface)]) (by kernel_rfl) ?_
 intro w7 a8 hS9 hF10; clear hF3 hS6
 refine ev_runK 1 hF10 [0,1,5,6] (l':=[(6,.bool false),(5,nB w),(0,nP b0 0),(1,.nilIface)]) (w':=w7) (by kernel_rfl) ?_
 intro a12 hF11; clear hF10
 refine wpList_nil (thenN (wp_seq (wp_region_lit ?_)))
 refine ev_runK 1 hF11 [0,1,5,14] (l':=[(14,.bool false),(5,nB w),(0,nP b0 0),(1,.nilIface)]) (w':=w7) (by kernel_rfl) ?_
 intro a14 hF13; clear hF11
 refine wpList_nil (thenN ?_)
 refine ev_condF hF13 rfl rfl ?_
 refine wp_skip ?_
 have hF15:=hF13.keep [0,1]
 clear hF13
 have hS16:=hS9.drop
 clear hS9
 refine thenN (wp_seq (wp_region_lit ?_))
 refine ev_runs 6 hF15 (l':=[(7,nB w7),(23,.bool false),(22,.agg #[nI 0]),(19,.tuple #[.agg #[nI 0],.bool false]),(21,.tuple #[.agg #[nI 0],.bool false]),(20,.nilIface),(0,nP b0 0),(1,.nilIface)]) (w':=w7.alloc (.cells #[nI 0] 89)) (by kernel_rfl) ?_
 intro a18 hF17; clear hF15
 have hS20:St w0 F0 (BlkP (w7.heap.size) 89 #[nI 0]::HeapP b0 ab0 s0::ps) (w7.alloc (.cells #[nI 0] 89)):=St.new hS16 #[nI 0] 89
 clear hS16
 refine ev_store (.agg #[nI 0]) #[nI 0] hF17 (by kernel_rfl) rfl rfl rfl rfl (by kernel_rfl) hS20 (by kernel_rfl) (by kernel_rfl) (by kernel_rfl) (l':=[(7,nB w7),(23,.bool false),(22,.agg #[nI 0]),(19,.tuple #[.agg #[nI 0],.bool false]),(21,.tuple #[.agg #[nI 0],.bool false]),(20,.nilIface),(0,nP b0 0),(1,.nilIface)]) (by kernel_rfl) ?_
 intro w21 a22 hS23 hF24; clear hF17 hS20
 refine ev_runK 1 hF24 [0,7,8] (l':=[(8,.bool false),(7,nB w7),(0,nP b0 0)]) (w':=w21) (by kernel_rfl) ?_
 intro a26 hF25; clear hF24
 refine wpList_nil (thenN (wp_seq (wp_region_lit ?_)))
 refine ev_runK 8 hF25 [4] (l':=[(4,.bool false)]) (w':=w21) (by kernel_rfl) ?_
 intro a28 hF27; clear hF25
 refine wpList_nil ?_
 have hS29:=hS23.drop
 clear hS23
 refine thenN ?_
 refine wp_ret ?_
 simp only [Option.some.injEq,Prod.mk.injEq] at hm
 obtain ⟨rfl,rfl⟩:=hm
 refine ev_ret hF27 [4] (.bool false) rfl rfl rfl ?_
 exact ⟨rfl,hS29⟩
def choose_Pick.j3 (L19:List Int) (x21:Int) (rec25:List Int→Int→Int→Option (Int×HSt)) (x183:Int):Option (Int×HSt):=rec25 L19 (IntKind.i64.wrap (x21+1)) x183
def choose_Pick.j7 (x205:Int) (rec208:HSt→Int→Option (Int×HSt)) (x239:Int) (s244:HSt) (y245:Bool):Option (Int×HSt):=(if (y245) then some (x239,s244) else rec208 s244 (IntKind.i64.wrap (x205+1)))
def choose_Pick.l6b (i1:Gr) (L2:List Cs) (i3:Int) (k:Nat) (L19:List Int) (x22:Int) (rec208:HSt→Int→Option (Int×HSt)) (s204:HSt) (x205:Int):Option (Int×HSt):=(if (decide (x205<(L19.length:Int))) then (if ((L19.length:Int) == 0) then none else (if (inR (Int.tmod (IntKind.i64.wrap ((Int.tmod (if 0 > i3 then 0 else i3) (L19.length:Int))+x205)) (L19.length:Int)) L19.length) then bind1 (some (atI L19 (Int.tmod (IntKind.i64.wrap ((Int.tmod (if 0 > i3 then 0 else i3) (L19.length:Int))+x205)) (L19.length:Int)))) fun x239=>(if (inR x239 L2.length) then bind1 (choose_of.m k (⟨i1.id,i1.status,i1.pc,i1.a,i1.b,i1.c,i1.d,i1.e,i1.f,i1.sudogs⟩:Gr) (⟨(atX kCs L2 x239).kind,(atX kCs L2 x239).ch,(atX kCs L2 x239).reg,(atX kCs L2 x239).to⟩:Cs)) fun o272=>optE o272 (bind2 (choose_readyN.m k s204) fun y283 s284=>choose_Pick.j7 x205 rec208 x239 s284 y283) fun q292=>sumE q292 (fun q294=>bind2 (choose_readyS.m k s204 q294) fun y300 s301=>choose_Pick.j7 x205 rec208 x239 s301 y300) fun q295=>sumE q295 (fun q310=>bind2 (choose_readyT.m k s204 q310) fun y316 s317=>choose_Pick.j7 x205 rec208 x239 s317 y316) fun q311=>bind2 (choose_readyO.m k s204 ()) fun y329 s330=>choose_Pick.j7 x205 rec208 x239 s330 y329 else none) else none)) else some (x22,s204))
def choose_Pick.l6 (i1:Gr) (L2:List Cs) (i3:Int) (k:Nat) (L19:List Int) (x22:Int):Nat→HSt→Int→Option (Int×HSt)
  | 0=>fun _ _=>none
  | kI+1=>choose_Pick.l6b i1 L2 i3 k L19 x22 (choose_Pick.l6 i1 L2 i3 k L19 x22 kI)
def choose_Pick.l2b (s0:HSt) (i1:Gr) (L2:List Cs) (i3:Int) (k:Nat) (rec25:List Int→Int→Int→Option (Int×HSt)) (L19:List Int) (x21:Int) (x22:Int):Option (Int×HSt):=(if (decide (x21<(L2.length:Int))) then (if (inR x21 L2.length) then bind1 (choose_of.m k (⟨i1.id,i1.status,i1.pc,i1.a,i1.b,i1.c,i1.d,i1.e,i1.f,i1.sudogs⟩:Gr) (⟨(atX kCs L2 x21).kind,(atX kCs L2 x21).ch,(atX kCs L2 x21).reg,(atX kCs L2 x21).to⟩:Cs)) fun o63=>optE o63 (bind1 (pushM L19 x21) fun L86=>rec25 L86 (IntKind.i64.wrap (x21+1)) x22) fun q100=>sumE q100 (fun q102=>bind1 (pushM L19 x21) fun L120=>rec25 L120 (IntKind.i64.wrap (x21+1)) x22) fun q103=>sumE q103 (fun q135=>bind1 (pushM L19 x21) fun L153=>rec25 L153 (IntKind.i64.wrap (x21+1)) x22) fun q136=>(if (decide (x22<0)) then choose_Pick.j3 L19 x21 rec25 x21 else choose_Pick.j3 L19 x21 rec25 x22) else none) else choose_Pick.l6 i1 L2 i3 k L19 x22 k s0 0)
def choose_Pick.l2 (s0:HSt) (i1:Gr) (L2:List Cs) (i3:Int) (k:Nat):Nat→List Int→Int→Int→Option (Int×HSt)
  | 0=>fun _ _ _=>none
  | kI+1=>choose_Pick.l2b s0 i1 L2 i3 k (choose_Pick.l2 s0 i1 L2 i3 k kI)
def choose_Pick.m (k:Nat) (s0:HSt) (i1:Gr) (L2:List Cs) (i3:Int):Option (Int×HSt):=choose_Pick.l2 s0 i1 L2 i3 k k [] 0 (-1)
theorem choose_Pick.ok {w0 w:World} {F0:List Nat} {ps:List Piece} {k:Nat} {b0 ab0:Nat} {s0:HSt} {i1:Gr} {v2:Value} {L2:List Cs} {o2:Option (Nat×Array Value)} {i3:Int} {r0:Int} {t0:HSt} (hS:St w0 F0 (HeapP b0 ab0 s0::RowY kCs (v2) L2 o2::ps) w) (hm:choose_Pick.m k s0 i1 L2 i3=some (r0,t0)) :
    Calls Tryz.prog 8 #[nP b0 0,.agg #[nI (i1.id),nI (i1.status),nI (i1.pc),nI (i1.a),nI (i1.b),nI (i1.c),nI (i1.d),nI (i1.e),nI (i1.f),nI (i1.sudogs)],v2,nI i3] w fun e w'=>e=.returned (.int .i64 r0)∧St w0 F0 (HeapP b0 ab0 t0::RowY kCs (v2) L2 o2::ps) w':=by
 refine ev_enterL 70 [nP b0 0,.agg #[nI (i1.id),nI (i1.status),nI (i1.pc),nI (i1.a),nI (i1.b),nI (i1.c),nI (i1.d),nI (i1.e),nI (i1.f),nI (i1.sudogs)],v2,nI i3] Tryz.func8 rfl rfl (by simp) ?_
 intro a hF
 have hF0:Fr 70 a [(0,nP b0 0),(1,.agg #[nI (i1.id),nI (i1.status),nI (i1.pc),nI (i1.a),nI (i1.b),nI (i1.c),nI (i1.d),nI (i1.e),nI (i1.f),nI (i1.sudogs)]),(2,v2),(3,nI i3)]:=hF; clear hF
 unfold choose_Pick.m at hm
 obtain ⟨hl4,p1,c2,rfl,hp3⟩:=St.shapeY hS 1 rfl
 refine wp_seq (wp_region_lit ?_)
 refine ev_runs 1 hF0 (l':=[(5,nB w),(0,nP b0 0),(1,.agg #[nI (i1.id),nI (i1.status),nI (i1.pc),nI (i1.a),nI (i1.b),nI (i1.c),nI (i1.d),nI (i1.e),nI (i1.f),nI (i1.sudogs)]),(2,.slice p1 L2.length c2),(3,nI i3)]) (w':=w.alloc (.cells #[nI (i1.id),nI (i1.status),nI (i1.pc),nI (i1.a),nI (i1.b),nI (i1.c),nI (i1.d),nI (i1.e),nI (i1.f),nI (i1.sudogs)] 29)) (by kernel_rfl) ?_
 intro a6 hF5; clear hF0
 have hS8:St w0 F0 (BlkP (w.heap.size) 29 #[nI (i1.id),nI (i1.status),nI (i1.pc),nI (i1.a),nI (i1.b),nI (i1.c),nI (i1.d),nI (i1.e),nI (i1.f),nI (i1.sudogs)]::HeapP b0 ab0 s0::RowY kCs (.slice p1 L2.length c2) L2 o2::ps) (w.alloc (.cells #[nI (i1.id),nI (i1.status),nI (i1.pc),nI (i1.a),nI (i1.b),nI (i1.c),nI (i1.d),nI (i1.e),nI (i1.f),nI (i1.sudogs)] 29)):=St.new hS #[nI (i1.id),nI (i1.status),nI (i1.pc),nI (i1.a),nI (i1.b),nI (i1.c),nI (i1.d),nI (i1.e),nI (i1.f),nI (i1.sudogs)] 29
 refine ev_runK 1 hF5 [0,2,3,5] (l':=[(5,nB w),(0,nP b0 0),(2,.slice p1 L2.length c2),(3,nI i3)]) (w':=w.alloc (.cells #[nI (i1.id),nI (i1.status),nI (i1.pc),nI (i1.a),nI (i1.b),nI (i1.c),nI (i1.d),nI (i1.e),nI (i1.f),nI (i1.sudogs)] 29)) (by kernel_rfl) ?_
 intro a10 hF9; clear hF5
 refine wpList_nil (thenN (wp_seq (wp_region_lit ?_)))
 have hS12:St w0 F0 (RowP (.slice none 0 0) []::BlkP (w.heap.size) 29 #[nI (i1.id),nI (i1.status),nI (i1.pc),nI (i1.a),nI (i1.b),nI (i1.c),nI (i1.d),nI (i1.e),nI (i1.f),nI (i1.sudogs)]::HeapP b0 ab0 s0::RowY kCs (.slice p1 L2.length c2) L2 o2::ps) (w.alloc (.cells #[nI (i1.id),nI (i1.status),nI (i1.pc),nI (i1.a),nI (i1.b),nI (i1.c),nI (i1.d),nI (i1.e),nI (i1.f),nI (i1.sudogs)] 29)):=St.nil hS8
 clear hS8
 refine ev_runs 1 hF9 (l':=[(9,.slice none 0 0),(5,nB w),(0,nP b0 0),(2,.slice p1 L2.length c2),(3,nI i3)]) (w':=w.alloc (.cells #[nI (i1.id),nI (i1.status),nI (i1.pc),nI (i1.a),nI (i1.b),nI (i1.c),nI (i1.d),nI (i1.e),nI (i1.f),nI (i1.sudogs)] 29)) (by kernel_rfl) ?_
 intro a14 hF13; clear hF9
 refine wpList_nil (thenN (wp_seq (wp_region_lit ?_)))
 refine ev_runs 1 hF13 (l':=[(10,nI (-1)),(9,.slice none 0 0),(5,nB w),(0,nP b0 0),(2,.slice p1 L2.length c2),(3,nI i3)]) (w':=w.alloc (.cells #[nI (i1.id),nI (i1.status),nI (i1.pc),nI (i1.a),nI (i1.b),nI (i1.c),nI (i1.d),nI (i1.e),nI (i1.f),nI (i1.sudogs)] 29)) (by kernel_rfl) ?_
 intro a16 hF15; clear hF13
 refine wpList_nil (thenN (wp_seq (wp_seq (wp_region_lit ?_))))
 refine ev_runs 3 hF15 (l':=[(19,nI 0),(18,nI ((L2.length:Int))),(17,.slice p1 L2.length c2),(10,nI (-1)),(9,.slice none 0 0),(5,nB w),(0,nP b0 0),(2,.slice p1 L2.length c2),(3,nI i3)]) (w':=w.alloc (.cells #[nI (i1.id),nI (i1.status),nI (i1.pc),nI (i1.a),nI (i1.b),nI (i1.c),nI (i1.d),nI (i1.e),nI (i1.f),nI (i1.sudogs)] 29)) (by kernel_rfl) ?_
 intro a18 hF17; clear hF15
 refine wpList_nil (thenN ?_)
 refine wp_block ?_
 refine wp_loop_ghost (fun kI aI wI=>∃ (v20:Value) (L19:List Int) (x21:Int) (x22:Int),Fr 70 aI [(19,nI x21),(18,nI ((L2.length:Int))),(17,.slice p1 L2.length c2),(10,nI x22),(9,v20),(5,nB w),(0,nP b0 0),(2,.slice p1 L2.length c2),(3,nI i3)]∧St w0 F0 (RowP (v20) L19::BlkP (w.heap.size) 29 #[nI (i1.id),nI (i1.status),nI (i1.pc),nI (i1.a),nI (i1.b),nI (i1.c),nI (i1.d),nI (i1.e),nI (i1.f),nI (i1.sudogs)]::HeapP b0 ab0 s0::RowY kCs (.slice p1 L2.length c2) L2 o2::ps) wI∧choose_Pick.l2 s0 i1 L2 i3 k kI L19 x21 x22=some (r0,t0)) k ⟨.slice none 0 0,[],0,-1,hF17,hS12,hm⟩ ?_
 rintro k23 a24 w25 ⟨v20,L19,x21,x22,hF26,hS27,hm28⟩
 clear hF17 hS12 hm
 rcases k23 with _ | k23
 · cases hm28
 have hm29:choose_Pick.l2b s0 i1 L2 i3 k (choose_Pick.l2 s0 i1 L2 i3 k k23) L19 x21 x22=some (r0,t0):=hm28
 clear hm28
 unfold choose_Pick.l2b at hm29
 obtain ⟨hl33,p30,c31,rfl,hp32⟩:=St.shape hS27 0 rfl
 refine wp_seq (wp_region_lit ?_)
 refine ev_runs 1 hF26 (l':=[(20,.bool (decide (x21<(L2.length:Int)))),(19,nI x21),(18,nI ((L2.length:Int))),(17,.slice p1 L2.length c2),(10,nI x22),(9,.slice p30 L19.length c31),(5,nB w),(0,nP b0 0),(2,.slice p1 L2.length c2),(3,nI i3)]) (w':=w25) (by kernel_rfl) ?_
 intro a35 hF34; clear hF26
 refine wpList_nil (thenN (wp_seq ?_))
 cases hc36:(decide (x21<(L2.length:Int)))
 case true =>
  rw [hc36] at hF34
  have hm37:=ifYes hc36 hm29; clear hm29
  refine ev_condT hF34 rfl rfl ?_
  refine wp_skip ?_
  have hF38:=hF34.keep [0,2,3,5,9,10,17,18,19]
  clear hF34
  refine thenN (wp_seq ?_)
  refine wp_block ?_
  refine wp_seq (wp_region_lit ?_)
  refine ev_runs 1 hF38 (l':=[(21,nI x21),(19,nI x21),(18,nI ((L2.length:Int))),(17,.slice p1 L2.length c2),(10,nI x22),(9,.slice p30 L19.length c31),(5,nB w),(0,nP b0 0),(2,.slice p1 L2.length c2),(3,nI i3)]) (w':=w25) (by kernel_rfl) ?_
  intro a40 hF39; clear hF38
  obtain ⟨hc41,hm42⟩:=ifTE hm37; clear hm37
  obtain ⟨g43,rfl⟩:=hp3.resolve_left (by have:=inR_spec hc41; omega)
  refine ev_one (nP g43 ((x21.toNat * 4))) w25 hF39 (by kernel_rfl) rfl (by kernel_rfl) (run_idxX rfl rfl (by kernel_rfl) rfl rfl (inR_spec hc41).1 (inR_spec hc41).2 _) (l':=[(22,nP g43 ((x21.toNat * 4))),(21,nI x21),(19,nI x21),(18,nI ((L2.length:Int))),(17,.slice (some ⟨g43,0,none⟩) L2.length c2),(10,nI x22),(9,.slice p30 L19.length c31),(5,nB w),(0,nP b0 0),(2,.slice (some ⟨g43,0,none⟩) L2.length c2),(3,nI i3)]) (by kernel_rfl) ?_
  intro a45 hF44; clear hF39
  refine ev_one (.agg #[nI ((atX kCs L2 x21).kind),nI ((atX kCs L2 x21).ch),nI ((atX kCs L2 x21).reg),nI ((atX kCs L2 x21).to)]) w25 hF44 (by kernel_rfl) rfl (by kernel_rfl) (run_loadV rfl rfl (run_loadA (cs:=[nI ((atX kCs L2 x21).kind),nI ((atX kCs L2 x21).ch),nI ((atX kCs L2 x21).reg),nI ((atX kCs L2 x21).to)]) rfl rfl (by kernel_rfl) (St.atY (cs:=[nI ((atX kCs L2 x21).kind),nI ((atX kCs L2 x21).ch),nI ((atX kCs L2 x21).reg),nI ((atX kCs L2 x21).to)]) hS27 3 rfl hc41 rfl))) (l':=[(23,.agg #[nI ((atX kCs L2 x21).kind),nI ((atX kCs L2 x21).ch),nI ((atX kCs L2 x21).reg),nI ((atX kCs L2 x21).to)]),(22,nP g43 ((x21.toNat * 4))),(21,nI x21),(19,nI x21),(18,nI ((L2.length:Int))),(17,.slice (some ⟨g43,0,none⟩) L2.length c2),(10,nI x22),(9,.slice p30 L19.length c31),(5,nB w),(0,nP b0 0),(2,.slice (some ⟨g43,0,none⟩) L2.length c2),(3,nI i3)]) (by kernel_rfl) ?_
  intro a47 hF46; clear hF44
  refine ev_runs 1 hF46 (l':=[(12,nB w25),(23,.agg #[nI ((atX kCs L2 x21).kind),nI ((atX kCs L2 x21).ch),nI ((atX kCs L2 x21).reg),nI ((atX kCs L2 x21).to)]),(22,nP g43 ((x21.toNat * 4))),(21,nI x21),(19,nI x21),(18,nI ((L2.length:Int))),(17,.slice (some ⟨g43,0,none⟩) L2.length c2),(10,nI x22),(9,.slice p30 L19.length c31),(5,nB w),(0,nP b0 0),(2,.slice (some ⟨g43,0,none⟩) L2.length c2),(3,nI i3)]) (w':=w25.alloc (.cells #[nI 0,nI 0,nI 0,nI 0] 33)) (by kernel_rfl) ?_
  intro a49 hF48; clear hF46
  have hS51:St w0 F0 (BlkP (w25.heap.size) 33 #[nI 0,nI 0,nI 0,nI 0]::RowP (.slice p30 L19.length c31) L19::BlkP (w.heap.size) 29 #[nI (i1.id),nI (i1.status),nI (i1.pc),nI (i1.a),nI (i1.b),nI (i1.c),nI (i1.d),nI (i1.e),nI (i1.f),nI (i1.sudogs)]::HeapP b0 ab0 s0::RowY kCs (.slice (some ⟨g43,0,none⟩) L2.length c2) L2 o2::ps) (w25.alloc (.cells #[nI 0,nI 0,nI 0,nI 0] 33)):=St.new hS27 #[nI 0,nI 0,nI 0,nI 0] 33
  clear hS27
  refine ev_runs 1 hF48 (l':=[(11,nI x21),(12,nB w25),(23,.agg #[nI ((atX kCs L2 x21).kind),nI ((atX kCs L2 x21).ch),nI ((atX kCs L2 x21).reg),nI ((atX kCs L2 x21).to)]),(22,nP g43 ((x21.toNat * 4))),(21,nI x21),(19,nI x21),(18,nI ((L2.length:Int))),(17,.slice (some ⟨g43,0,none⟩) L2.length c2),(10,nI x22),(9,.slice p30 L19.length c31),(5,nB w),(0,nP b0 0),(2,.slice (some ⟨g43,0,none⟩) L2.length c2),(3,nI i3)]) (w':=w25.alloc (.cells #[nI 0,nI 0,nI 0,nI 0] 33)) (by kernel_rfl) ?_
  intro a53 hF52; clear hF48
  refine ev_store (.agg #[nI ((atX kCs L2 x21).kind),nI ((atX kCs L2 x21).ch),nI ((atX kCs L2 x21).reg),nI ((atX kCs L2 x21).to)]) #[nI ((atX kCs L2 x21).kind),nI ((atX kCs L2 x21).ch),nI ((atX kCs L2 x21).reg),nI ((atX kCs L2 x21).to)] hF52 (by kernel_rfl) rfl rfl rfl rfl (by kernel_rfl) hS51 (by kernel_rfl) (by kernel_rfl) (by kernel_rfl) (l':=[(11,nI x21),(12,nB w25),(23,.agg #[nI ((atX kCs L2 x21).kind),nI ((atX kCs L2 x21).ch),nI ((atX kCs L2 x21).reg),nI ((atX kCs L2 x21).to)]),(22,nP g43 ((x21.toNat * 4))),(21,nI x21),(19,nI x21),(18,nI ((L2.length:Int))),(17,.slice (some ⟨g43,0,none⟩) L2.length c2),(10,nI x22),(9,.slice p30 L19.length c31),(5,nB w),(0,nP b0 0),(2,.slice (some ⟨g43,0,none⟩) L2.length c2),(3,nI i3)]) (by kernel_rfl) ?_
  intro w54 a55 hS56 hF57; clear hF52 hS51
  refine wpList_nil ?_
  have hF58:=hF57.keep [0,2,3,5,9,10,11,12,17,18,19]
  clear hF57
  refine thenN (wp_seq (wp_region_lit ?_))
  refine ev_one (.agg #[nI (i1.id),nI (i1.status),nI (i1.pc),nI (i1.a),nI (i1.b),nI (i1.c),nI (i1.d),nI (i1.e),nI (i1.f),nI (i1.sudogs)]) w54 hF58 (by kernel_rfl) rfl (by kernel_rfl) (run_loadV rfl rfl (run_loadA (cs:=[nI (i1.id),nI (i1.status),nI (i1.pc),nI (i1.a),nI (i1.b),nI (i1.c),nI (i1.d),nI (i1.e),nI (i1.f),nI (i1.sudogs)]) rfl rfl (by kernel_rfl) (blk_cells hS56 2 rfl rfl))) (l':=[(25,.agg #[nI (i1.id),nI (i1.status),nI (i1.pc),nI (i1.a),nI (i1.b),nI (i1.c),nI (i1.d),nI (i1.e),nI (i1.f),nI (i1.sudogs)]),(11,nI x21),(12,nB w25),(19,nI x21),(18,nI ((L2.length:Int))),(17,.slice (some ⟨g43,0,none⟩) L2.length c2),(10,nI x22),(9,.slice p30 L19.length c31),(5,nB w),(0,nP b0 0),(2,.slice (some ⟨g43,0,none⟩) L2.length c2),(3,nI i3)]) (by kernel_rfl) ?_
  intro a60 hF59; clear hF58
  refine ev_one (.agg #[nI ((atX kCs L2 x21).kind),nI ((atX kCs L2 x21).ch),nI ((atX kCs L2 x21).reg),nI ((atX kCs L2 x21).to)]) w54 hF59 (by kernel_rfl) rfl (by kernel_rfl) (run_loadV rfl rfl (run_loadA (cs:=[nI ((atX kCs L2 x21).kind),nI ((atX kCs L2 x21).ch),nI ((atX kCs L2 x21).reg),nI ((atX kCs L2 x21).to)]) rfl rfl (by kernel_rfl) (blk_cells hS56 0 rfl rfl))) (l':=[(26,.agg #[nI ((atX kCs L2 x21).kind),nI ((atX kCs L2 x21).ch),nI ((atX kCs L2 x21).reg),nI ((atX kCs L2 x21).to)]),(25,.agg #[nI (i1.id),nI (i1.status),nI (i1.pc),nI (i1.a),nI (i1.b),nI (i1.c),nI (i1.d),nI (i1.e),nI (i1.f),nI (i1.sudogs)]),(11,nI x21),(12,nB w25),(19,nI x21),(18,nI ((L2.length:Int))),(17,.slice (some ⟨g43,0,none⟩) L2.length c2),(10,nI x22),(9,.slice p30 L19.length c31),(5,nB w),(0,nP b0 0),(2,.slice (some ⟨g43,0,none⟩) L2.length c2),(3,nI i3)]) (by kernel_rfl) ?_
  intro a62 hF61; clear hF59
  refine ev_call 19 #[.agg #[nI (i1.id),nI (i1.status),nI (i1.pc),nI (i1.a),nI (i1.b),nI (i1.c),nI (i1.d),nI (i1.e),nI (i1.f),nI (i1.sudogs)],.agg #[nI ((atX kCs L2 x21).kind),nI ((atX kCs L2 x21).ch),nI ((atX kCs L2 x21).reg),nI ((atX kCs L2 x21).to)]] hF61 rfl rfl (by kernel_rfl) rfl (by kernel_rfl) (fun w=>by kernel_rfl) ?_
  obtain ⟨o63,hx64,hm65⟩:=bind1E hm42; clear hm42
  refine (choose_of.ok hS56 hx64).mono ?_
  rintro _ w66 ⟨rfl,hS68⟩ a67 hF69; clear hF61 hS56
  cases o63 with
  | none =>
   have hm70:=optN hm65; clear hm65
   refine ev_runs 5 hF69 (l':=[(13,nB w66),(30,.bool false),(29,.agg #[]),(24,.tuple #[.agg #[],.bool false]),(28,.tuple #[.agg #[],.bool false]),(27,.nilIface),(26,.agg #[nI ((atX kCs L2 x21).kind),nI ((atX kCs L2 x21).ch),nI ((atX kCs L2 x21).reg),nI ((atX kCs L2 x21).to)]),(25,.agg #[nI (i1.id),nI (i1.status),nI (i1.pc),nI (i1.a),nI (i1.b),nI (i1.c),nI (i1.d),nI (i1.e),nI (i1.f),nI (i1.sudogs)]),(11,nI x21),(12,nB w25),(19,nI x21),(18,nI ((L2.length:Int))),(17,.slice (some ⟨g43,0,none⟩) L2.length c2),(10,nI x22),(9,.slice p30 L19.length c31),(5,nB w),(0,nP b0 0),(2,.slice (some ⟨g43,0,none⟩) L2.length c2),(3,nI i3)]) (w':=w66.alloc (.cells #[] 57)) (by kernel_rfl) ?_
   intro a72 hF71; clear hF69
   have hS74:St w0 F0 (BlkP (w66.heap.size) 57 #[]::BlkP (w25.heap.size) 33 #[nI ((atX kCs L2 x21).kind),nI ((atX kCs L2 x21).ch),nI ((atX kCs L2 x21).reg),nI ((atX kCs L2 x21).to)]::RowP (.slice p30 L19.length c31) L19::BlkP (w.heap.size) 29 #[nI (i1.id),nI (i1.status),nI (i1.pc),nI (i1.a),nI (i1.b),nI (i1.c),nI (i1.d),nI (i1.e),nI (i1.f),nI (i1.sudogs)]::HeapP b0 ab0 s0::RowY kCs (.slice (some ⟨g43,0,none⟩) L2.length c2) L2 o2::ps) (w66.alloc (.cells #[] 57)):=St.new hS68 #[] 57
   clear hS68
   refine ev_store (.agg #[]) #[] hF71 (by kernel_rfl) rfl rfl rfl rfl (by kernel_rfl) hS74 (by kernel_rfl) (by kernel_rfl) (by kernel_rfl) (l':=[(13,nB w66),(30,.bool false),(29,.agg #[]),(24,.tuple #[.agg #[],.bool false]),(28,.tuple #[.agg #[],.bool false]),(27,.nilIface),(26,.agg #[nI ((atX kCs L2 x21).kind),nI ((atX kCs L2 x21).ch),nI ((atX kCs L2 x21).reg),nI ((atX kCs L2 x21).to)]),(25,.agg #[nI (i1.id),nI (i1.status),nI (i1.pc),nI (i1.a),nI (i1.b),nI (i1.c),nI (i1.d),nI (i1.e),nI (i1.f),nI (i1.sudogs)]),(11,nI x21),(12,nB w25),(19,nI x21),(18,nI ((L2.length:Int))),(17,.slice (some ⟨g43,0,none⟩) L2.length c2),(10,nI x22),(9,.slice p30 L19.length c31),(5,nB w),(0,nP b0 0),(2,.slice (some ⟨g43,0,none⟩) L2.length c2),(3,nI i3)]) (by kernel_rfl) ?_
   intro w75 a76 hS77 hF78; clear hF71 hS74
   refine ev_runK 1 hF78 [0,2,3,5,9,10,11,14,17,18,19] (l':=[(14,.bool false),(11,nI x21),(19,nI x21),(18,nI ((L2.length:Int))),(17,.slice (some ⟨g43,0,none⟩) L2.length c2),(10,nI x22),(9,.slice p30 L19.length c31),(5,nB w),(0,nP b0 0),(2,.slice (some ⟨g43,0,none⟩) L2.length c2),(3,nI i3)]) (w':=w75) (by kernel_rfl) ?_
   intro a80 hF79; clear hF78
   refine wpList_nil ?_
   have hS81:=hS77.drop.drop
   clear hS77
   refine thenN (wp_seq (wp_region_lit ?_))
   refine ev_runK 2 hF79 [0,2,3,5,9,10,11,17,18,19,32] (l':=[(32,.bool true),(11,nI x21),(19,nI x21),(18,nI ((L2.length:Int))),(17,.slice (some ⟨g43,0,none⟩) L2.length c2),(10,nI x22),(9,.slice p30 L19.length c31),(5,nB w),(0,nP b0 0),(2,.slice (some ⟨g43,0,none⟩) L2.length c2),(3,nI i3)]) (w':=w75) (by kernel_rfl) ?_
   intro a83 hF82; clear hF79
   refine wpList_nil (thenN ?_)
   refine ev_condT hF82 rfl rfl ?_
   refine wp_region_lit ?_
   refine ev_runs 3 hF82 (l':=[(35,.slice (some ⟨w75.heap.size,0,none⟩) 1 1),(34,nI x21),(33,.slice p30 L19.length c31),(32,.bool true),(11,nI x21),(19,nI x21),(18,nI ((L2.length:Int))),(17,.slice (some ⟨g43,0,none⟩) L2.length c2),(10,nI x22),(9,.slice p30 L19.length c31),(5,nB w),(0,nP b0 0),(2,.slice (some ⟨g43,0,none⟩) L2.length c2),(3,nI i3)]) (w':=w75.alloc (.cells #[nI x21] 3)) (by kernel_rfl) ?_
   intro a85 hF84; clear hF82
   obtain ⟨L86,hx87,hm88⟩:=bind1E hm70; clear hm70
   refine ev_push 36 (.tmp 33) (.tmp 35) hF84 rfl rfl rfl rfl rfl rfl rfl rfl hS81 hx87 ?_
   intro g89 c90 w91 a92 hS93 hF94; clear hF84 hS81
   refine ev_runK 1 hF94 [0,2,3,5,9,10,17,18,19] (l':=[(9,nS g89 L86 c90),(19,nI x21),(18,nI ((L2.length:Int))),(17,.slice (some ⟨g43,0,none⟩) L2.length c2),(10,nI x22),(5,nB w),(0,nP b0 0),(2,.slice (some ⟨g43,0,none⟩) L2.length c2),(3,nI i3)]) (w':=w91) (by kernel_rfl) ?_
   intro a96 hF95; clear hF94
   refine wpList_nil ?_
   refine blockN ?_
   refine thenN (wp_region_lit ?_)
   refine ev_runK 2 hF95 [0,2,3,5,9,10,17,18,19] (l':=[(19,nI (IntKind.i64.wrap (x21+1))),(9,nS g89 L86 c90),(18,nI ((L2.length:Int))),(17,.slice (some ⟨g43,0,none⟩) L2.length c2),(10,nI x22),(5,nB w),(0,nP b0 0),(2,.slice (some ⟨g43,0,none⟩) L2.length c2),(3,nI i3)]) (w':=w91) (by kernel_rfl) ?_
   intro a98 hF97; clear hF95
   refine wpList_nil ?_
   have hF99:Fr 70 a98 [(19,nI (IntKind.i64.wrap (x21+1))),(18,nI ((L2.length:Int))),(17,.slice (some ⟨g43,0,none⟩) L2.length c2),(10,nI x22),(9,nS g89 L86 c90),(5,nB w),(0,nP b0 0),(2,.slice (some ⟨g43,0,none⟩) L2.length c2),(3,nI i3)]:=Fr.re hF97 (by kernel_rfl)
   clear hF97
   exact thenN ⟨k23,Nat.lt_succ_self _,nS g89 L86 c90,L86,IntKind.i64.wrap (x21+1),x22,hF99,hS93,hm88⟩
  | some q100 =>
   have hm101:=optS hm65; clear hm65
   cases q100 with
   | inl q102 =>
    have hm104:=sumL hm101; clear hm101
    refine ev_runs 5 hF69 (l':=[(13,nB w66),(30,.bool false),(29,.agg #[]),(24,.tuple #[.agg #[],.bool false]),(28,.tuple #[.agg #[],.bool false]),(27,.iface 88 (.agg #[nI q102])),(26,.agg #[nI ((atX kCs L2 x21).kind),nI ((atX kCs L2 x21).ch),nI ((atX kCs L2 x21).reg),nI ((atX kCs L2 x21).to)]),(25,.agg #[nI (i1.id),nI (i1.status),nI (i1.pc),nI (i1.a),nI (i1.b),nI (i1.c),nI (i1.d),nI (i1.e),nI (i1.f),nI (i1.sudogs)]),(11,nI x21),(12,nB w25),(19,nI x21),(18,nI ((L2.length:Int))),(17,.slice (some ⟨g43,0,none⟩) L2.length c2),(10,nI x22),(9,.slice p30 L19.length c31),(5,nB w),(0,nP b0 0),(2,.slice (some ⟨g43,0,none⟩) L2.length c2),(3,nI i3)]) (w':=w66.alloc (.cells #[] 57)) (by kernel_rfl) ?_
    intro a106 hF105; clear hF69
    have hS108:St w0 F0 (BlkP (w66.heap.size) 57 #[]::BlkP (w25.heap.size) 33 #[nI ((atX kCs L2 x21).kind),nI ((atX kCs L2 x21).ch),nI ((atX kCs L2 x21).reg),nI ((atX kCs L2 x21).to)]::RowP (.slice p30 L19.length c31) L19::BlkP (w.heap.size) 29 #[nI (i1.id),nI (i1.status),nI (i1.pc),nI (i1.a),nI (i1.b),nI (i1.c),nI (i1.d),nI (i1.e),nI (i1.f),nI (i1.sudogs)]::HeapP b0 ab0 s0::RowY kCs (.slice (some ⟨g43,0,none⟩) L2.length c2) L2 o2::ps) (w66.alloc (.cells #[] 57)):=St.new hS68 #[] 57
    clear hS68
    refine ev_store (.agg #[]) #[] hF105 (by kernel_rfl) rfl rfl rfl rfl (by kernel_rfl) hS108 (by kernel_rfl) (by kernel_rfl) (by kernel_rfl) (l':=[(13,nB w66),(30,.bool false),(29,.agg #[]),(24,.tuple #[.agg #[],.bool false]),(28,.tuple #[.agg #[],.bool false]),(27,.iface 88 (.agg #[nI q102])),(26,.agg #[nI ((atX kCs L2 x21).kind),nI ((atX kCs L2 x21).ch),nI ((atX kCs L2 x21).reg),nI ((atX kCs L2 x21).to)]),(25,.agg #[nI (i1.id),nI (i1.status),nI (i1.pc),nI (i1.a),nI (i1.b),nI (i1.c),nI (i1.d),nI (i1.e),nI (i1.f),nI (i1.sudogs)]),(11,nI x21),(12,nB w25),(19,nI x21),(18,nI ((L2.length:Int))),(17,.slice (some ⟨g43,0,none⟩) L2.length c2),(10,nI x22),(9,.slice p30 L19.length c31),(5,nB w),(0,nP b0 0),(2,.slice (some ⟨g43,0,none⟩) L2.length c2),(3,nI i3)]) (by kernel_rfl) ?_
    intro w109 a110 hS111 hF112; clear hF105 hS108
    refine ev_runK 1 hF112 [0,2,3,5,9,10,11,14,17,18,19] (l':=[(14,.bool false),(11,nI x21),(19,nI x21),(18,nI ((L2.length:Int))),(17,.slice (some ⟨g43,0,none⟩) L2.length c2),(10,nI x22),(9,.slice p30 L19.length c31),(5,nB w),(0,nP b0 0),(2,.slice (some ⟨g43,0,none⟩) L2.length c2),(3,nI i3)]) (w':=w109) (by kernel_rfl) ?_
    intro a114 hF113; clear hF112
    refine wpList_nil ?_
    have hS115:=hS111.drop.drop
    clear hS111
    refine thenN (wp_seq (wp_region_lit ?_))
    refine ev_runK 2 hF113 [0,2,3,5,9,10,11,17,18,19,32] (l':=[(32,.bool true),(11,nI x21),(19,nI x21),(18,nI ((L2.length:Int))),(17,.slice (some ⟨g43,0,none⟩) L2.length c2),(10,nI x22),(9,.slice p30 L19.length c31),(5,nB w),(0,nP b0 0),(2,.slice (some ⟨g43,0,none⟩) L2.length c2),(3,nI i3)]) (w':=w109) (by kernel_rfl) ?_
    intro a117 hF116; clear hF113
    refine wpList_nil (thenN ?_)
    refine ev_condT hF116 rfl rfl ?_
    refine wp_region_lit ?_
    refine ev_runs 3 hF116 (l':=[(35,.slice (some ⟨w109.heap.size,0,none⟩) 1 1),(34,nI x21),(33,.slice p30 L19.length c31),(32,.bool true),(11,nI x21),(19,nI x21),(18,nI ((L2.length:Int))),(17,.slice (some ⟨g43,0,none⟩) L2.length c2),(10,nI x22),(9,.slice p30 L19.length c31),(5,nB w),(0,nP b0 0),(2,.slice (some ⟨g43,0,none⟩) L2.length c2),(3,nI i3)]) (w':=w109.alloc (.cells #[nI x21] 3)) (by kernel_rfl) ?_
    intro a119 hF118; clear hF116
    obtain ⟨L120,hx121,hm122⟩:=bind1E hm104; clear hm104
    refine ev_push 36 (.tmp 33) (.tmp 35) hF118 rfl rfl rfl rfl rfl rfl rfl rfl hS115 hx121 ?_
    intro g123 c124 w125 a126 hS127 hF128; clear hF118 hS115
    refine ev_runK 1 hF128 [0,2,3,5,9,10,17,18,19] (l':=[(9,nS g123 L120 c124),(19,nI x21),(18,nI ((L2.length:Int))),(17,.slice (some ⟨g43,0,none⟩) L2.length c2),(10,nI x22),(5,nB w),(0,nP b0 0),(2,.slice (some ⟨g43,0,none⟩) L2.length c2),(3,nI i3)]) (w':=w125) (by kernel_rfl) ?_
    intro a130 hF129; clear hF128
    refine wpList_nil ?_
    refine blockN ?_
    refine thenN (wp_region_lit ?_)
    refine ev_runK 2 hF129 [0,2,3,5,9,10,17,18,19] (l':=[(19,nI (IntKind.i64.wrap (x21+1))),(9,nS g123 L120 c124),(18,nI ((L2.length:Int))),(17,.slice (some ⟨g43,0,none⟩) L2.length c2),(10,nI x22),(5,nB w),(0,nP b0 0),(2,.slice (some ⟨g43,0,none⟩) L2.length c2),(3,nI i3)]) (w':=w125) (by kernel_rfl) ?_
    intro a132 hF131; clear hF129
    refine wpList_nil ?_
    have hF133:Fr 70 a132 [(19,nI (IntKind.i64.wrap (x21+1))),(18,nI ((L2.length:Int))),(17,.slice (some ⟨g43,0,none⟩) L2.length c2),(10,nI x22),(9,nS g123 L120 c124),(5,nB w),(0,nP b0 0),(2,.slice (some ⟨g43,0,none⟩) L2.length c2),(3,nI i3)]:=Fr.re hF131 (by kernel_rfl)
    clear hF131
    exact thenN ⟨k23,Nat.lt_succ_self _,nS g123 L120 c124,L120,IntKind.i64.wrap (x21+1),x22,hF133,hS127,hm122⟩
   | inr q103 =>
    have hm134:=sumR hm101; clear hm101
    cases q103 with
    | inl q135 =>
     have hm137:=sumL hm134; clear hm134
     refine ev_runs 5 hF69 (l':=[(13,nB w66),(30,.bool false),(29,.agg #[]),(24,.tuple #[.agg #[],.bool false]),(28,.tuple #[.agg #[],.bool false]),(27,.iface 89 (.agg #[nI q135])),(26,.agg #[nI ((atX kCs L2 x21).kind),nI ((atX kCs L2 x21).ch),nI ((atX kCs L2 x21).reg),nI ((atX kCs L2 x21).to)]),(25,.agg #[nI (i1.id),nI (i1.status),nI (i1.pc),nI (i1.a),nI (i1.b),nI (i1.c),nI (i1.d),nI (i1.e),nI (i1.f),nI (i1.sudogs)]),(11,nI x21),(12,nB w25),(19,nI x21),(18,nI ((L2.length:Int))),(17,.slice (some ⟨g43,0,none⟩) L2.length c2),(10,nI x22),(9,.slice p30 L19.length c31),(5,nB w),(0,nP b0 0),(2,.slice (some ⟨g43,0,none⟩) L2.length c2),(3,nI i3)]) (w':=w66.alloc (.cells #[] 57)) (by kernel_rfl) ?_
     intro a139 hF138; clear hF69
     have hS141:St w0 F0 (BlkP (w66.heap.size) 57 #[]::BlkP (w25.heap.size) 33 #[nI ((atX kCs L2 x21).kind),nI ((atX kCs L2 x21).ch),nI ((atX kCs L2 x21).reg),nI ((atX kCs L2 x21).to)]::RowP (.slice p30 L19.length c31) L19::BlkP (w.heap.size) 29 #[nI (i1.id),nI (i1.status),nI (i1.pc),nI (i1.a),nI (i1.b),nI (i1.c),nI (i1.d),nI (i1.e),nI (i1.f),nI (i1.sudogs)]::HeapP b0 ab0 s0::RowY kCs (.slice (some ⟨g43,0,none⟩) L2.length c2) L2 o2::ps) (w66.alloc (.cells #[] 57)):=St.new hS68 #[] 57
     clear hS68
     refine ev_store (.agg #[]) #[] hF138 (by kernel_rfl) rfl rfl rfl rfl (by kernel_rfl) hS141 (by kernel_rfl) (by kernel_rfl) (by kernel_rfl) (l':=[(13,nB w66),(30,.bool false),(29,.agg #[]),(24,.tuple #[.agg #[],.bool false]),(28,.tuple #[.agg #[],.bool false]),(27,.iface 89 (.agg #[nI q135])),(26,.agg #[nI ((atX kCs L2 x21).kind),nI ((atX kCs L2 x21).ch),nI ((atX kCs L2 x21).reg),nI ((atX kCs L2 x21).to)]),(25,.agg #[nI (i1.id),nI (i1.status),nI (i1.pc),nI (i1.a),nI (i1.b),nI (i1.c),nI (i1.d),nI (i1.e),nI (i1.f),nI (i1.sudogs)]),(11,nI x21),(12,nB w25),(19,nI x21),(18,nI ((L2.length:Int))),(17,.slice (some ⟨g43,0,none⟩) L2.length c2),(10,nI x22),(9,.slice p30 L19.length c31),(5,nB w),(0,nP b0 0),(2,.slice (some ⟨g43,0,none⟩) L2.length c2),(3,nI i3)]) (by kernel_rfl) ?_
     intro w142 a143 hS144 hF145; clear hF138 hS141
     refine ev_runK 1 hF145 [0,2,3,5,9,10,11,14,17,18,19] (l':=[(14,.bool false),(11,nI x21),(19,nI x21),(18,nI ((L2.length:Int))),(17,.slice (some ⟨g43,0,none⟩) L2.length c2),(10,nI x22),(9,.slice p30 L19.length c31),(5,nB w),(0,nP b0 0),(2,.slice (some ⟨g43,0,none⟩) L2.length c2),(3,nI i3)]) (w':=w142) (by kernel_rfl) ?_
     intro a147 hF146; clear hF145
     refine wpList_nil ?_
     have hS148:=hS144.drop.drop
     clear hS144
     refine thenN (wp_seq (wp_region_lit ?_))
     refine ev_runK 2 hF146 [0,2,3,5,9,10,11,17,18,19,32] (l':=[(32,.bool true),(11,nI x21),(19,nI x21),(18,nI ((L2.length:Int))),(17,.slice (some ⟨g43,0,none⟩) L2.length c2),(10,nI x22),(9,.slice p30 L19.length c31),(5,nB w),(0,nP b0 0),(2,.slice (some ⟨g43,0,none⟩) L2.length c2),(3,nI i3)]) (w':=w142) (by kernel_rfl) ?_
     intro a150 hF149; clear hF146
     refine wpList_nil (thenN ?_)
     refine ev_condT hF149 rfl rfl ?_
     refine wp_region_lit ?_
     refine ev_runs 3 hF149 (l':=[(35,.slice (some ⟨w142.heap.size,0,none⟩) 1 1),(34,nI x21),(33,.slice p30 L19.length c31),(32,.bool true),(11,nI x21),(19,nI x21),(18,nI ((L2.length:Int))),(17,.slice (some ⟨g43,0,none⟩) L2.length c2),(10,nI x22),(9,.slice p30 L19.length c31),(5,nB w),(0,nP b0 0),(2,.slice (some ⟨g43,0,none⟩) L2.length c2),(3,nI i3)]) (w':=w142.alloc (.cells #[nI x21] 3)) (by kernel_rfl) ?_
     intro a152 hF151; clear hF149
     obtain ⟨L153,hx154,hm155⟩:=bind1E hm137; clear hm137
     refine ev_push 36 (.tmp 33) (.tmp 35) hF151 rfl rfl rfl rfl rfl rfl rfl rfl hS148 hx154 ?_
     intro g156 c157 w158 a159 hS160 hF161; clear hF151 hS148
     refine ev_runK 1 hF161 [0,2,3,5,9,10,17,18,19] (l':=[(9,nS g156 L153 c157),(19,nI x21),(18,nI ((L2.length:Int))),(17,.slice (some ⟨g43,0,none⟩) L2.length c2),(10,nI x22),(5,nB w),(0,nP b0 0),(2,.slice (some ⟨g43,0,none⟩) L2.length c2),(3,nI i3)]) (w':=w158) (by kernel_rfl) ?_
     intro a163 hF162; clear hF161
     refine wpList_nil ?_
     refine blockN ?_
     refine thenN (wp_region_lit ?_)
     refine ev_runK 2 hF162 [0,2,3,5,9,10,17,18,19] (l':=[(19,nI (IntKind.i64.wrap (x21+1))),(9,nS g156 L153 c157),(18,nI ((L2.length:Int))),(17,.slice (some ⟨g43,0,none⟩) L2.length c2),(10,nI x22),(5,nB w),(0,nP b0 0),(2,.slice (some ⟨g43,0,none⟩) L2.length c2),(3,nI i3)]) (w':=w158) (by kernel_rfl) ?_
     intro a165 hF164; clear hF162
     refine wpList_nil ?_
     have hF166:Fr 70 a165 [(19,nI (IntKind.i64.wrap (x21+1))),(18,nI ((L2.length:Int))),(17,.slice (some ⟨g43,0,none⟩) L2.length c2),(10,nI x22),(9,nS g156 L153 c157),(5,nB w),(0,nP b0 0),(2,.slice (some ⟨g43,0,none⟩) L2.length c2),(3,nI i3)]:=Fr.re hF164 (by kernel_rfl)
     clear hF164
     exact thenN ⟨k23,Nat.lt_succ_self _,nS g156 L153 c157,L153,IntKind.i64.wrap (x21+1),x22,hF166,hS160,hm155⟩
    | inr q136 =>
     have hm167:=sumR hm134; clear hm134
     refine ev_runs 5 hF69 (l':=[(13,nB w66),(30,.bool true),(29,.agg #[]),(24,.tuple #[.agg #[],.bool true]),(28,.tuple #[.agg #[],.bool true]),(27,.iface 57 (.agg #[])),(26,.agg #[nI ((atX kCs L2 x21).kind),nI ((atX kCs L2 x21).ch),nI ((atX kCs L2 x21).reg),nI ((atX kCs L2 x21).to)]),(25,.agg #[nI (i1.id),nI (i1.status),nI (i1.pc),nI (i1.a),nI (i1.b),nI (i1.c),nI (i1.d),nI (i1.e),nI (i1.f),nI (i1.sudogs)]),(11,nI x21),(12,nB w25),(19,nI x21),(18,nI ((L2.length:Int))),(17,.slice (some ⟨g43,0,none⟩) L2.length c2),(10,nI x22),(9,.slice p30 L19.length c31),(5,nB w),(0,nP b0 0),(2,.slice (some ⟨g43,0,none⟩) L2.length c2),(3,nI i3)]) (w':=w66.alloc (.cells #[] 57)) (by kernel_rfl) ?_
     intro a169 hF168; clear hF69
     have hS171:St w0 F0 (BlkP (w66.heap.size) 57 #[]::BlkP (w25.heap.size) 33 #[nI ((atX kCs L2 x21).kind),nI ((atX kCs L2 x21).ch),nI ((atX kCs L2 x21).reg),nI ((atX kCs L2 x21).to)]::RowP (.slice p30 L19.length c31) L19::BlkP (w.heap.size) 29 #[nI (i1.id),nI (i1.status),nI (i1.pc),nI (i1.a),nI (i1.b),nI (i1.c),nI (i1.d),nI (i1.e),nI (i1.f),nI (i1.sudogs)]::HeapP b0 ab0 s0::RowY kCs (.slice (some ⟨g43,0,none⟩) L2.length c2) L2 o2::ps) (w66.alloc (.cells #[] 57)):=St.new hS68 #[] 57
     clear hS68
     refine ev_store (.agg #[]) #[] hF168 (by kernel_rfl) rfl rfl rfl rfl (by kernel_rfl) hS171 (by kernel_rfl) (by kernel_rfl) (by kernel_rfl) (l':=[(13,nB w66),(30,.bool true),(29,.agg #[]),(24,.tuple #[.agg #[],.bool true]),(28,.tuple #[.agg #[],.bool true]),(27,.iface 57 (.agg #[])),(26,.agg #[nI ((atX kCs L2 x21).kind),nI ((atX kCs L2 x21).ch),nI ((atX kCs L2 x21).reg),nI ((atX kCs L2 x21).to)]),(25,.agg #[nI (i1.id),nI (i1.status),nI (i1.pc),nI (i1.a),nI (i1.b),nI (i1.c),nI (i1.d),nI (i1.e),nI (i1.f),nI (i1.sudogs)]),(11,nI x21),(12,nB w25),(19,nI x21),(18,nI ((L2.length:Int))),(17,.slice (some ⟨g43,0,none⟩) L2.length c2),(10,nI x22),(9,.slice p30 L19.length c31),(5,nB w),(0,nP b0 0),(2,.slice (some ⟨g43,0,none⟩) L2.length c2),(3,nI i3)]) (by kernel_rfl) ?_
     intro w172 a173 hS174 hF175; clear hF168 hS171
     refine ev_runK 1 hF175 [0,2,3,5,9,10,11,14,17,18,19] (l':=[(14,.bool true),(11,nI x21),(19,nI x21),(18,nI ((L2.length:Int))),(17,.slice (some ⟨g43,0,none⟩) L2.length c2),(10,nI x22),(9,.slice p30 L19.length c31),(5,nB w),(0,nP b0 0),(2,.slice (some ⟨g43,0,none⟩) L2.length c2),(3,nI i3)]) (w':=w172) (by kernel_rfl) ?_
     intro a177 hF176; clear hF175
     refine wpList_nil ?_
     have hS178:=hS174.drop.drop
     clear hS174
     refine thenN (wp_seq (wp_region_lit ?_))
     refine ev_runK 2 hF176 [0,2,3,5,9,10,11,17,18,19,32] (l':=[(32,.bool false),(11,nI x21),(19,nI x21),(18,nI ((L2.length:Int))),(17,.slice (some ⟨g43,0,none⟩) L2.length c2),(10,nI x22),(9,.slice p30 L19.length c31),(5,nB w),(0,nP b0 0),(2,.slice (some ⟨g43,0,none⟩) L2.length c2),(3,nI i3)]) (w':=w172) (by kernel_rfl) ?_
     intro a180 hF179; clear hF176
     refine wpList_nil (thenN ?_)
     refine ev_condF hF179 rfl rfl ?_
     refine wp_seq (wp_region_lit ?_)
     refine ev_runK 2 hF179 [0,2,3,5,9,10,11,17,18,19,38] (l':=[(38,.bool (decide (x22<0))),(11,nI x21),(19,nI x21),(18,nI ((L2.length:Int))),(17,.slice (some ⟨g43,0,none⟩) L2.length c2),(10,nI x22),(9,.slice p30 L19.length c31),(5,nB w),(0,nP b0 0),(2,.slice (some ⟨g43,0,none⟩) L2.length c2),(3,nI i3)]) (w':=w172) (by kernel_rfl) ?_
     intro a182 hF181; clear hF179
     refine wpList_nil (thenN ?_)
     refine joinQ (fun aI wI=>∃ (x183:Int),Fr 70 aI [(10,nI x183),(19,nI x21),(18,nI ((L2.length:Int))),(17,.slice (some ⟨g43,0,none⟩) L2.length c2),(9,.slice p30 L19.length c31),(5,nB w),(0,nP b0 0),(2,.slice (some ⟨g43,0,none⟩) L2.length c2),(3,nI i3)]∧St w0 F0 (RowP (.slice p30 L19.length c31) L19::BlkP (w.heap.size) 29 #[nI (i1.id),nI (i1.status),nI (i1.pc),nI (i1.a),nI (i1.b),nI (i1.c),nI (i1.d),nI (i1.e),nI (i1.f),nI (i1.sudogs)]::HeapP b0 ab0 s0::RowY kCs (.slice (some ⟨g43,0,none⟩) L2.length c2) L2 o2::ps) wI∧choose_Pick.j3 L19 x21 (choose_Pick.l2 s0 i1 L2 i3 k k23) x183=some (r0,t0)) ?_ ?_
     rotate_left
     · rintro a185 w186 ⟨x183,hF187,hS188,hm189⟩
       clear hF181 hS178 hm167
       unfold choose_Pick.j3 at hm189
       refine blockN ?_
       refine thenN (wp_region_lit ?_)
       refine ev_runK 2 hF187 [0,2,3,5,9,10,17,18,19] (l':=[(19,nI (IntKind.i64.wrap (x21+1))),(10,nI x183),(18,nI ((L2.length:Int))),(17,.slice (some ⟨g43,0,none⟩) L2.length c2),(9,.slice p30 L19.length c31),(5,nB w),(0,nP b0 0),(2,.slice (some ⟨g43,0,none⟩) L2.length c2),(3,nI i3)]) (w':=w186) (by kernel_rfl) ?_
       intro a192 hF191; clear hF187
       refine wpList_nil ?_
       have hF193:Fr 70 a192 [(19,nI (IntKind.i64.wrap (x21+1))),(18,nI ((L2.length:Int))),(17,.slice (some ⟨g43,0,none⟩) L2.length c2),(10,nI x183),(9,.slice p30 L19.length c31),(5,nB w),(0,nP b0 0),(2,.slice (some ⟨g43,0,none⟩) L2.length c2),(3,nI i3)]:=Fr.re hF191 (by kernel_rfl)
       clear hF191
       exact thenN ⟨k23,Nat.lt_succ_self _,.slice p30 L19.length c31,L19,IntKind.i64.wrap (x21+1),x183,hF193,hS188,hm189⟩
     · skip
       cases hc194:(decide (x22<0))
       case true =>
        rw [hc194] at hF181
        have hm195:=ifYes hc194 hm167; clear hm167
        refine ev_condT hF181 rfl rfl ?_
        refine wp_region_lit ?_
        refine ev_runK 2 hF181 [0,2,3,5,9,10,17,18,19] (l':=[(10,nI x21),(19,nI x21),(18,nI ((L2.length:Int))),(17,.slice (some ⟨g43,0,none⟩) L2.length c2),(9,.slice p30 L19.length c31),(5,nB w),(0,nP b0 0),(2,.slice (some ⟨g43,0,none⟩) L2.length c2),(3,nI i3)]) (w':=w172) (by kernel_rfl) ?_
        intro a197 hF196; clear hF181
        refine wpList_nil ?_
        exact thenN ⟨x21,hF196,hS178,hm195⟩
       rw [hc194] at hF181
       have hm198:=ifNot hc194 hm167; clear hm167
       refine ev_condF hF181 rfl rfl ?_
       refine wp_skip ?_
       have hF199:=hF181.keep [0,2,3,5,9,10,17,18,19]
       clear hF181
       have hF200:Fr 70 a182 [(10,nI x22),(19,nI x21),(18,nI ((L2.length:Int))),(17,.slice (some ⟨g43,0,none⟩) L2.length c2),(9,.slice p30 L19.length c31),(5,nB w),(0,nP b0 0),(2,.slice (some ⟨g43,0,none⟩) L2.length c2),(3,nI i3)]:=Fr.re hF199 (by kernel_rfl)
       clear hF199
       exact thenN ⟨x22,hF200,hS178,hm198⟩
 rw [hc36] at hF34
 have hm201:=ifNot hc36 hm29; clear hm29
 refine ev_condF hF34 rfl rfl ?_
 refine wp_exit ?_
 refine thenE ?_
 refine thenE ?_
 refine blockE ?_
 refine thenN (wp_seq (wp_seq (wp_region_lit ?_)))
 refine ev_runK 3 hF34 [0,2,3,5,9,10,42,43] (l':=[(43,nI 0),(42,nI ((L19.length:Int))),(10,nI x22),(9,.slice p30 L19.length c31),(5,nB w),(0,nP b0 0),(2,.slice p1 L2.length c2),(3,nI i3)]) (w':=w25) (by kernel_rfl) ?_
 intro a203 hF202; clear hF34
 refine wpList_nil (thenN ?_)
 refine wp_block ?_
 refine wp_loop_ghost (fun kI aI wI=>∃ (s204:HSt) (x205:Int),Fr 70 aI [(43,nI x205),(42,nI ((L19.length:Int))),(10,nI x22),(9,.slice p30 L19.length c31),(5,nB w),(0,nP b0 0),(2,.slice p1 L2.length c2),(3,nI i3)]∧St w0 F0 (RowP (.slice p30 L19.length c31) L19::BlkP (w.heap.size) 29 #[nI (i1.id),nI (i1.status),nI (i1.pc),nI (i1.a),nI (i1.b),nI (i1.c),nI (i1.d),nI (i1.e),nI (i1.f),nI (i1.sudogs)]::HeapP b0 ab0 s204::RowY kCs (.slice p1 L2.length c2) L2 o2::ps) wI∧choose_Pick.l6 i1 L2 i3 k L19 x22 kI s204 x205=some (r0,t0)) k ⟨s0,0,hF202,hS27,hm201⟩ ?_
 rintro k206 a207 w208 ⟨s204,x205,hF209,hS210,hm211⟩
 clear hF202 hS27 hm201
 rcases k206 with _ | k206
 · cases hm211
 have hm212:choose_Pick.l6b i1 L2 i3 k L19 x22 (choose_Pick.l6 i1 L2 i3 k L19 x22 k206) s204 x205=some (r0,t0):=hm211
 clear hm211
 unfold choose_Pick.l6b at hm212
 refine wp_seq (wp_region_lit ?_)
 refine ev_runs 1 hF209 (l':=[(44,.bool (decide (x205<(L19.length:Int)))),(43,nI x205),(42,nI ((L19.length:Int))),(10,nI x22),(9,.slice p30 L19.length c31),(5,nB w),(0,nP b0 0),(2,.slice p1 L2.length c2),(3,nI i3)]) (w':=w208) (by kernel_rfl) ?_
 intro a214 hF213; clear hF209
 refine wpList_nil (thenN (wp_seq ?_))
 cases hc215:(decide (x205<(L19.length:Int)))
 case true =>
  rw [hc215] at hF213
  have hm216:=ifYes hc215 hm212; clear hm212
  refine ev_condT hF213 rfl rfl ?_
  refine wp_skip ?_
  have hF217:=hF213.keep [0,2,3,5,9,10,42,43]
  clear hF213
  refine thenN (wp_seq ?_)
  refine wp_block ?_
  refine wp_seq (wp_region_lit ?_)
  refine ev_runK 2 hF217 [0,2,3,5,9,10,15,42,43] (l':=[(15,nI x205),(43,nI x205),(42,nI ((L19.length:Int))),(10,nI x22),(9,.slice p30 L19.length c31),(5,nB w),(0,nP b0 0),(2,.slice p1 L2.length c2),(3,nI i3)]) (w':=w208) (by kernel_rfl) ?_
  intro a219 hF218; clear hF217
  refine wpList_nil (thenN (wp_seq (wp_region_lit ?_)))
  refine ev_runs 5 hF218 (l':=[(50,nI ((L19.length:Int))),(49,.slice p30 L19.length c31),(48,nI (if 0 > i3 then 0 else i3)),(47,nI i3),(46,.slice p30 L19.length c31),(15,nI x205),(43,nI x205),(42,nI ((L19.length:Int))),(10,nI x22),(9,.slice p30 L19.length c31),(5,nB w),(0,nP b0 0),(2,.slice p1 L2.length c2),(3,nI i3)]) (w':=w208) (by kernel_rfl) ?_
  intro a221 hF220; clear hF218
  obtain ⟨hc222,hm223⟩:=ifFE hm216; clear hm216
  refine ev_one (nI (Int.tmod (if 0 > i3 then 0 else i3) (L19.length:Int))) w208 hF220 (by kernel_rfl) rfl (by kernel_rfl) (run_rem rfl rfl rfl hc222 _) (l':=[(51,nI (Int.tmod (if 0 > i3 then 0 else i3) (L19.length:Int))),(50,nI ((L19.length:Int))),(49,.slice p30 L19.length c31),(48,nI (if 0 > i3 then 0 else i3)),(47,nI i3),(46,.slice p30 L19.length c31),(15,nI x205),(43,nI x205),(42,nI ((L19.length:Int))),(10,nI x22),(9,.slice p30 L19.length c31),(5,nB w),(0,nP b0 0),(2,.slice p1 L2.length c2),(3,nI i3)]) (by kernel_rfl) ?_
  intro a225 hF224; clear hF220
  refine ev_runs 4 hF224 (l':=[(55,nI ((L19.length:Int))),(54,.slice p30 L19.length c31),(53,nI (IntKind.i64.wrap ((Int.tmod (if 0 > i3 then 0 else i3) (L19.length:Int))+x205))),(52,nI x205),(51,nI (Int.tmod (if 0 > i3 then 0 else i3) (L19.length:Int))),(50,nI ((L19.length:Int))),(49,.slice p30 L19.length c31),(48,nI (if 0 > i3 then 0 else i3)),(47,nI i3),(46,.slice p30 L19.length c31),(15,nI x205),(43,nI x205),(42,nI ((L19.length:Int))),(10,nI x22),(9,.slice p30 L19.length c31),(5,nB w),(0,nP b0 0),(2,.slice p1 L2.length c2),(3,nI i3)]) (w':=w208) (by kernel_rfl) ?_
  intro a227 hF226; clear hF224
  refine ev_one (nI (Int.tmod (IntKind.i64.wrap ((Int.tmod (if 0 > i3 then 0 else i3) (L19.length:Int))+x205)) (L19.length:Int))) w208 hF226 (by kernel_rfl) rfl (by kernel_rfl) (run_rem rfl rfl rfl hc222 _) (l':=[(56,nI (Int.tmod (IntKind.i64.wrap ((Int.tmod (if 0 > i3 then 0 else i3) (L19.length:Int))+x205)) (L19.length:Int))),(55,nI ((L19.length:Int))),(54,.slice p30 L19.length c31),(53,nI (IntKind.i64.wrap ((Int.tmod (if 0 > i3 then 0 else i3) (L19.length:Int))+x205))),(52,nI x205),(51,nI (Int.tmod (if 0 > i3 then 0 else i3) (L19.length:Int))),(50,nI ((L19.length:Int))),(49,.slice p30 L19.length c31),(48,nI (if 0 > i3 then 0 else i3)),(47,nI i3),(46,.slice p30 L19.length c31),(15,nI x205),(43,nI x205),(42,nI ((L19.length:Int))),(10,nI x22),(9,.slice p30 L19.length c31),(5,nB w),(0,nP b0 0),(2,.slice p1 L2.length c2),(3,nI i3)]) (by kernel_rfl) ?_
  intro a229 hF228; clear hF226
  obtain ⟨hc230,hm231⟩:=ifTE hm223; clear hm223
  obtain ⟨g232,rfl⟩:=hp32.resolve_left (by have:=inR_spec hc230; omega)
  refine ev_one (nP g232 ((Int.tmod (IntKind.i64.wrap ((Int.tmod (if 0 > i3 then 0 else i3) (L19.length:Int))+x205)) (L19.length:Int)).toNat)) w208 hF228 (by kernel_rfl) rfl (by kernel_rfl) (run_idx rfl rfl rfl rfl rfl (inR_spec hc230).1 (inR_spec hc230).2 _) (l':=[(57,nP g232 ((Int.tmod (IntKind.i64.wrap ((Int.tmod (if 0 > i3 then 0 else i3) (L19.length:Int))+x205)) (L19.length:Int)).toNat)),(56,nI (Int.tmod (IntKind.i64.wrap ((Int.tmod (if 0 > i3 then 0 else i3) (L19.length:Int))+x205)) (L19.length:Int))),(55,nI ((L19.length:Int))),(54,nS g232 L19 c31),(53,nI (IntKind.i64.wrap ((Int.tmod (if 0 > i3 then 0 else i3) (L19.length:Int))+x205))),(52,nI x205),(51,nI (Int.tmod (if 0 > i3 then 0 else i3) (L19.length:Int))),(50,nI ((L19.length:Int))),(49,nS g232 L19 c31),(48,nI (if 0 > i3 then 0 else i3)),(47,nI i3),(46,nS g232 L19 c31),(15,nI x205),(43,nI x205),(42,nI ((L19.length:Int))),(10,nI x22),(9,nS g232 L19 c31),(5,nB w),(0,nP b0 0),(2,.slice p1 L2.length c2),(3,nI i3)]) (by kernel_rfl) ?_
  intro a234 hF233; clear hF228
  refine ev_one (nI (atI L19 (Int.tmod (IntKind.i64.wrap ((Int.tmod (if 0 > i3 then 0 else i3) (L19.length:Int))+x205)) (L19.length:Int)))) w208 hF233 (by kernel_rfl) rfl (by kernel_rfl) (run_load1 rfl rfl rfl (hS210.atI 0 rfl hc230)) (l':=[(58,nI (atI L19 (Int.tmod (IntKind.i64.wrap ((Int.tmod (if 0 > i3 then 0 else i3) (L19.length:Int))+x205)) (L19.length:Int)))),(57,nP g232 ((Int.tmod (IntKind.i64.wrap ((Int.tmod (if 0 > i3 then 0 else i3) (L19.length:Int))+x205)) (L19.length:Int)).toNat)),(56,nI (Int.tmod (IntKind.i64.wrap ((Int.tmod (if 0 > i3 then 0 else i3) (L19.length:Int))+x205)) (L19.length:Int))),(55,nI ((L19.length:Int))),(54,nS g232 L19 c31),(53,nI (IntKind.i64.wrap ((Int.tmod (if 0 > i3 then 0 else i3) (L19.length:Int))+x205))),(52,nI x205),(51,nI (Int.tmod (if 0 > i3 then 0 else i3) (L19.length:Int))),(50,nI ((L19.length:Int))),(49,nS g232 L19 c31),(48,nI (if 0 > i3 then 0 else i3)),(47,nI i3),(46,nS g232 L19 c31),(15,nI x205),(43,nI x205),(42,nI ((L19.length:Int))),(10,nI x22),(9,nS g232 L19 c31),(5,nB w),(0,nP b0 0),(2,.slice p1 L2.length c2),(3,nI i3)]) (by kernel_rfl) ?_
  intro a236 hF235; clear hF233
  refine ev_runs 1 hF235 (l':=[(16,nI (atI L19 (Int.tmod (IntKind.i64.wrap ((Int.tmod (if 0 > i3 then 0 else i3) (L19.length:Int))+x205)) (L19.length:Int)))),(58,nI (atI L19 (Int.tmod (IntKind.i64.wrap ((Int.tmod (if 0 > i3 then 0 else i3) (L19.length:Int))+x205)) (L19.length:Int)))),(57,nP g232 ((Int.tmod (IntKind.i64.wrap ((Int.tmod (if 0 > i3 then 0 else i3) (L19.length:Int))+x205)) (L19.length:Int)).toNat)),(56,nI (Int.tmod (IntKind.i64.wrap ((Int.tmod (if 0 > i3 then 0 else i3) (L19.length:Int))+x205)) (L19.length:Int))),(55,nI ((L19.length:Int))),(54,nS g232 L19 c31),(53,nI (IntKind.i64.wrap ((Int.tmod (if 0 > i3 then 0 else i3) (L19.length:Int))+x205))),(52,nI x205),(51,nI (Int.tmod (if 0 > i3 then 0 else i3) (L19.length:Int))),(50,nI ((L19.length:Int))),(49,nS g232 L19 c31),(48,nI (if 0 > i3 then 0 else i3)),(47,nI i3),(46,nS g232 L19 c31),(15,nI x205),(43,nI x205),(42,nI ((L19.length:Int))),(10,nI x22),(9,nS g232 L19 c31),(5,nB w),(0,nP b0 0),(2,.slice p1 L2.length c2),(3,nI i3)]) (w':=w208) (by kernel_rfl) ?_
  intro a238 hF237; clear hF235
  obtain ⟨x239,hx240,hm241⟩:=bind1E hm231; clear hm231
  have hF242:=hF237; rw [Option.some.inj hx240] at hF242; clear hF237
  refine wpList_nil ?_
  have hF243:=hF242.keep [0,2,3,5,9,10,16,42,43]
  clear hF242
  refine thenN (wp_seq ?_)
  refine joinQ (fun aI wI=>∃ (s244:HSt) (y245:Bool),Fr 70 aI [(66,.bool (y245)),(16,nI x239),(43,nI x205),(42,nI ((L19.length:Int))),(10,nI x22),(9,nS g232 L19 c31),(5,nB w),(0,nP b0 0),(2,.slice p1 L2.length c2),(3,nI i3)]∧St w0 F0 (HeapP b0 ab0 s244::BlkP (w.heap.size) 29 #[nI (i1.id),nI (i1.status),nI (i1.pc),nI (i1.a),nI (i1.b),nI (i1.c),nI (i1.d),nI (i1.e),nI (i1.f),nI (i1.sudogs)]::RowY kCs (.slice p1 L2.length c2) L2 o2::RowP (nS g232 L19 c31) L19::ps) wI∧choose_Pick.j7 x205 (choose_Pick.l6 i1 L2 i3 k L19 x22 k206) x239 s244 y245=some (r0,t0)) ?_ ?_
  rotate_left
  · rintro a247 w248 ⟨s244,y245,hF249,hS250,hm251⟩
    clear hF243 hS210 hm241
    unfold choose_Pick.j7 at hm251
    refine thenN ?_
    cases hc253:(y245)
    case true =>
     rw [hc253] at hF249
     have hm254:=ifYes hc253 hm251; clear hm251
     refine ev_condT hF249 rfl rfl ?_
     refine wp_seq (wp_region_lit ?_)
     refine ev_runK 2 hF249 [8] (l':=[(8,nI x239)]) (w':=w248) (by kernel_rfl) ?_
     intro a256 hF255; clear hF249
     refine wpList_nil ?_
     have hS257:=hS250.pick1.drop.pick2.drop
     clear hS250
     refine thenN ?_
     refine wp_ret ?_
     refine blockR ?_
     refine thenR (thenR ?_)
     refine blockR ?_
     refine thenR ?_
     simp only [Option.some.injEq,Prod.mk.injEq] at hm254
     obtain ⟨rfl,rfl⟩:=hm254
     refine ev_ret hF255 [8] (nI x239) rfl rfl rfl ?_
     exact ⟨rfl,hS257⟩
    rw [hc253] at hF249
    have hm260:=ifNot hc253 hm251; clear hm251
    refine ev_condF hF249 rfl rfl ?_
    refine wp_skip ?_
    have hF261:=hF249.keep [0,2,3,5,9,10,42,43]
    clear hF249
    refine blockN ?_
    refine thenN (wp_region_lit ?_)
    refine ev_runK 2 hF261 [0,2,3,5,9,10,42,43] (l':=[(43,nI (IntKind.i64.wrap (x205+1))),(42,nI ((L19.length:Int))),(10,nI x22),(9,nS g232 L19 c31),(5,nB w),(0,nP b0 0),(2,.slice p1 L2.length c2),(3,nI i3)]) (w':=w248) (by kernel_rfl) ?_
    intro a263 hF262; clear hF261
    refine wpList_nil ?_
    have hS264:=hS250.pick2.pick1.pick2.pick3
    clear hS250
    exact thenN ⟨k206,Nat.lt_succ_self _,s244,IntKind.i64.wrap (x205+1),hF262,hS264,hm260⟩
  · skip
    obtain ⟨hc265,hm266⟩:=ifTE hm241; clear hm241
    obtain ⟨g267,rfl⟩:=hp3.resolve_left (by have:=inR_spec hc265; omega)
    have hS268:=hS210.pick3.pick2
    clear hS210
    have hS269:=hS268.drew; clear hS268
    refine any_start (fun wS=>∃ qs,St w0 F0 (BlkP (w.heap.size) 29 #[nI (i1.id),nI (i1.status),nI (i1.pc),nI (i1.a),nI (i1.b),nI (i1.c),nI (i1.d),nI (i1.e),nI (i1.f),nI (i1.sudogs)]::RowY kCs (.slice (some ⟨g267,0,none⟩) L2.length c2) L2 o2::qs) wS) 8 #[false,false,false,false,false,false,false,false] (by kernel_rfl) (by kernel_rfl) (by kernel_rfl) ?_
    refine any_many 6 [(0,some (nP b0 0)),(1,some (.agg #[nI (i1.id),nI (i1.status),nI (i1.pc),nI (i1.a),nI (i1.b),nI (i1.c),nI (i1.d),nI (i1.e),nI (i1.f),nI (i1.sudogs)])),(2,some (.slice (some ⟨g267,0,none⟩) L2.length c2)),(3,some (nI x239)),(4,some (nP g267 ((x239.toNat * 4)))),(5,some (.agg #[nI ((atX kCs L2 x239).kind),nI ((atX kCs L2 x239).ch),nI ((atX kCs L2 x239).reg),nI ((atX kCs L2 x239).to)]))] [0,2,3,5,9,10,16,42,43,59,60,64,65,66] #[true,true,true,true,true,true,false,false] (by rfl) hF243 (by kernel_rfl) (by kernel_rfl) (by exact ⟨fun wS hw=>by kernel_rfl,fun wS hw=>hw.elim fun qs hw=>run_loadV rfl rfl (run_loadA (cs:=[nI (i1.id),nI (i1.status),nI (i1.pc),nI (i1.a),nI (i1.b),nI (i1.c),nI (i1.d),nI (i1.e),nI (i1.f),nI (i1.sudogs)]) rfl rfl (by kernel_rfl) (blk_cells hw 0 rfl rfl)),fun wS hw=>by kernel_rfl,fun wS hw=>by kernel_rfl,fun wS hw=>run_idxX rfl rfl (by kernel_rfl) rfl rfl (inR_spec hc265).1 (inR_spec hc265).2 _,fun wS hw=>hw.elim fun qs hw=>run_loadV rfl rfl (run_loadA (cs:=[nI ((atX kCs L2 x239).kind),nI ((atX kCs L2 x239).ch),nI ((atX kCs L2 x239).reg),nI ((atX kCs L2 x239).to)]) rfl rfl (by kernel_rfl) (St.atY (cs:=[nI ((atX kCs L2 x239).kind),nI ((atX kCs L2 x239).ch),nI ((atX kCs L2 x239).reg),nI ((atX kCs L2 x239).to)]) hw 1 rfl hc265 rfl)),trivial⟩) (fun _ _ _ _ _ h=>h) ⟨_,hS269⟩ (l':=[(64,.agg #[nI ((atX kCs L2 x239).kind),nI ((atX kCs L2 x239).ch),nI ((atX kCs L2 x239).reg),nI ((atX kCs L2 x239).to)]),(60,.agg #[nI (i1.id),nI (i1.status),nI (i1.pc),nI (i1.a),nI (i1.b),nI (i1.c),nI (i1.d),nI (i1.e),nI (i1.f),nI (i1.sudogs)]),(59,nP b0 0),(16,nI x239),(43,nI x205),(42,nI ((L19.length:Int))),(10,nI x22),(9,nS g232 L19 c31),(5,nB w),(0,nP b0 0),(2,.slice (some ⟨g267,0,none⟩) L2.length c2),(3,nI i3)]) (by kernel_rfl) ?_
    intro a271 hF270; clear hF243
    refine any_call 6 #[true,true,true,true,true,true,true,false] 19 #[.agg #[nI (i1.id),nI (i1.status),nI (i1.pc),nI (i1.a),nI (i1.b),nI (i1.c),nI (i1.d),nI (i1.e),nI (i1.f),nI (i1.sudogs)],.agg #[nI ((atX kCs L2 x239).kind),nI ((atX kCs L2 x239).ch),nI ((atX kCs L2 x239).reg),nI ((atX kCs L2 x239).to)]] hF270 rfl (by kernel_rfl) rfl rfl (by kernel_rfl) rfl (by kernel_rfl) (fun w=>by kernel_rfl) (by kernel_rfl) ?_
    obtain ⟨o272,hx273,hm274⟩:=bind1E hm266; clear hm266
    refine (choose_of.ok hS269 hx273).mono ?_
    rintro _ w275 ⟨rfl,hS277⟩; clear hS269
    cases o272 with
    | none =>
     have hm279:=optN hm274; clear hm274
     refine ⟨⟨_,hS277⟩,?_⟩
     intro a280 hF281; clear hF270
     have hS282:=hS277.pick3
     clear hS277
     refine any_call 7 #[true,true,true,true,true,true,true,true] 20 #[nP b0 0,.nilIface] hF281 rfl (by kernel_rfl) rfl rfl (by kernel_rfl) rfl (by kernel_rfl) (fun w=>by kernel_rfl) (by kernel_rfl) ?_
     obtain ⟨y283,s284,hx285,hm286⟩:=bind2E hm279; clear hm279
     refine (choose_readyN.ok hS282 hx285).mono ?_
     rintro _ w287 ⟨rfl,hS289⟩; clear hS282
     refine ⟨⟨_,hS289.pick2.pick2⟩,?_⟩
     intro a288 hF290; clear hF281
     refine any_done (by kernel_rfl) ?_
     have hF291:=hF290.keep [0,2,3,5,9,10,16,42,43,66]
     clear hF290
     exact thenN ⟨s284,y283,hF291,hS289,hm286⟩
    | some q292 =>
     have hm293:=optS hm274; clear hm274
     cases q292 with
     | inl q294 =>
      have hm296:=sumL hm293; clear hm293
      refine ⟨⟨_,hS277⟩,?_⟩
      intro a297 hF298; clear hF270
      have hS299:=hS277.pick3
      clear hS277
      refine any_call 7 #[true,true,true,true,true,true,true,true] 20 #[nP b0 0,.iface 88 (.agg #[nI q294])] hF298 rfl (by kernel_rfl) rfl rfl (by kernel_rfl) rfl (by kernel_rfl) (fun w=>by kernel_rfl) (by kernel_rfl) ?_
      obtain ⟨y300,s301,hx302,hm303⟩:=bind2E hm296; clear hm296
      refine (choose_readyS.ok hS299 hx302).mono ?_
      rintro _ w304 ⟨rfl,hS306⟩; clear hS299
      refine ⟨⟨_,hS306.pick2.pick2⟩,?_⟩
      intro a305 hF307; clear hF298
      refine any_done (by kernel_rfl) ?_
      have hF308:=hF307.keep [0,2,3,5,9,10,16,42,43,66]
      clear hF307
      exact thenN ⟨s301,y300,hF308,hS306,hm303⟩
     | inr q295 =>
      have hm309:=sumR hm293; clear hm293
      cases q295 with
      | inl q310 =>
       have hm312:=sumL hm309; clear hm309
       refine ⟨⟨_,hS277⟩,?_⟩
       intro a313 hF314; clear hF270
       have hS315:=hS277.pick3
       clear hS277
       refine any_call 7 #[true,true,true,true,true,true,true,true] 20 #[nP b0 0,.iface 89 (.agg #[nI q310])] hF314 rfl (by kernel_rfl) rfl rfl (by kernel_rfl) rfl (by kernel_rfl) (fun w=>by kernel_rfl) (by kernel_rfl) ?_
       obtain ⟨y316,s317,hx318,hm319⟩:=bind2E hm312; clear hm312
       refine (choose_readyT.ok hS315 hx318).mono ?_
       rintro _ w320 ⟨rfl,hS322⟩; clear hS315
       refine ⟨⟨_,hS322.pick2.pick2⟩,?_⟩
       intro a321 hF323; clear hF314
       refine any_done (by kernel_rfl) ?_
       have hF324:=hF323.keep [0,2,3,5,9,10,16,42,43,66]
       clear hF323
       exact thenN ⟨s317,y316,hF324,hS322,hm319⟩
      | inr q311 =>
       have hm325:=sumR hm309; clear hm309
       refine ⟨⟨_,hS277⟩,?_⟩
       intro a326 hF327; clear hF270
       have hS328:=hS277.pick3
       clear hS277
       refine any_call 7 #[true,true,true,true,true,true,true,true] 20 #[nP b0 0,.iface 57 (.agg #[])] hF327 rfl (by kernel_rfl) rfl rfl (by kernel_rfl) rfl (by kernel_rfl) (fun w=>by kernel_rfl) (by kernel_rfl) ?_
       obtain ⟨y329,s330,hx331,hm332⟩:=bind2E hm325; clear hm325
       refine (choose_readyO.ok hS328 hx331).mono ?_
       rintro _ w333 ⟨rfl,hS335⟩; clear hS328
       refine ⟨⟨_,hS335.pick2.pick2⟩,?_⟩
       intro a334 hF336; clear hF327
       refine any_done (by kernel_rfl) ?_
       have hF337:=hF336.keep [0,2,3,5,9,10,16,42,43,66]
       clear hF336
       exact thenN ⟨s330,y329,hF337,hS335,hm332⟩
 rw [hc215] at hF213
 have hm338:=ifNot hc215 hm212; clear hm212
 refine ev_condF hF213 rfl rfl ?_
 refine wp_exit ?_
 refine thenE ?_
 refine thenE ?_
 refine blockE ?_
 refine thenN (wp_seq (wp_region_lit ?_))
 refine ev_runK 2 hF213 [8] (l':=[(8,nI x22)]) (w':=w208) (by kernel_rfl) ?_
 intro a340 hF339; clear hF213
 refine wpList_nil ?_
 have hS341:=hS210.drop.drop
 clear hS210
 refine thenN ?_
 refine wp_ret ?_
 simp only [Option.some.injEq,Prod.mk.injEq] at hm338
 obtain ⟨rfl,rfl⟩:=hm338
 refine ev_ret hF339 [8] (nI x22) rfl rfl rfl ?_
 exact ⟨rfl,hS341⟩
def choose_Waits.j8 (x22:Int) (rec25:List Int→Int→Option (List Int)) (L104:List Int):Option (List Int):=rec25 L104 (IntKind.i64.wrap (x22+1))
def choose_Waits.j9 (x22:Int) (rec25:List Int→Int→Option (List Int)) (L175:List Int):Option (List Int):=rec25 L175 (IntKind.i64.wrap (x22+1))
def choose_Waits.j10 (x22:Int) (rec25:List Int→Int→Option (List Int)) (L245:List Int):Option (List Int):=rec25 L245 (IntKind.i64.wrap (x22+1))
def choose_Waits.l7b (i0:Gr) (L1:List Cs) (k:Nat) (rec25:List Int→Int→Option (List Int)) (L20:List Int) (x22:Int):Option (List Int):=(if (decide (x22<(L1.length:Int))) then (if (inR x22 L1.length) then bind1 (choose_of.m k (⟨i0.id,i0.status,i0.pc,i0.a,i0.b,i0.c,i0.d,i0.e,i0.f,i0.sudogs⟩:Gr) (⟨(atX kCs L1 x22).kind,(atX kCs L1 x22).ch,(atX kCs L1 x22).reg,(atX kCs L1 x22).to⟩:Cs)) fun o63=>optE o63 (bind1 (choose_word.m k (⟨i0.id,i0.status,i0.pc,i0.a,i0.b,i0.c,i0.d,i0.e,i0.f,i0.sudogs⟩:Gr) ((atX kCs L1 x22).ch)) fun x90=>(if (vIsPtr x90) then bind1 (pushM L20 x22) fun L123=>choose_Waits.j8 x22 rec25 L123 else choose_Waits.j8 x22 rec25 L20)) fun q137=>sumE q137 (fun q139=>bind1 (choose_word.m k (⟨i0.id,i0.status,i0.pc,i0.a,i0.b,i0.c,i0.d,i0.e,i0.f,i0.sudogs⟩:Gr) ((atX kCs L1 x22).ch)) fun x161=>(if (vIsPtr x161) then bind1 (pushM L20 x22) fun L194=>choose_Waits.j9 x22 rec25 L194 else choose_Waits.j9 x22 rec25 L20)) fun q140=>sumE q140 (fun q209=>bind1 (choose_word.m k (⟨i0.id,i0.status,i0.pc,i0.a,i0.b,i0.c,i0.d,i0.e,i0.f,i0.sudogs⟩:Gr) ((atX kCs L1 x22).ch)) fun x231=>(if (vIsPtr x231) then bind1 (pushM L20 x22) fun L264=>choose_Waits.j10 x22 rec25 L264 else choose_Waits.j10 x22 rec25 L20)) fun q210=>rec25 L20 (IntKind.i64.wrap (x22+1)) else none) else some (L20))
def choose_Waits.l7 (i0:Gr) (L1:List Cs) (k:Nat):Nat→List Int→Int→Option (List Int)
  | 0=>fun _ _=>none
  | kI+1=>choose_Waits.l7b i0 L1 k (choose_Waits.l7 i0 L1 k kI)
def choose_Waits.m (k:Nat) (i0:Gr) (L1:List Cs):Option (List Int):=choose_Waits.l7 i0 L1 k k [] 0
theorem choose_Waits.ok {w0 w:World} {F0:List Nat} {ps:List Piece} {k:Nat} {i0:Gr} {v1:Value} {L1:List Cs} {o1:Option (Nat×Array Value)} {r0:List Int} (hS:St w0 F0 (RowY kCs (v1) L1 o1::ps) w) (hm:choose_Waits.m k i0 L1=some r0) :
    Calls Tryz.prog 9 #[.agg #[nI (i0.id),nI (i0.status),nI (i0.pc),nI (i0.a),nI (i0.b),nI (i0.c),nI (i0.d),nI (i0.e),nI (i0.f),nI (i0.sudogs)],v1] w fun e w'=>∃ vr0,e=.returned (vr0)∧St w0 F0 (RowY kCs (v1) L1 o1::RowP vr0 r0::ps) w':=by
 refine ev_enterL 39 [.agg #[nI (i0.id),nI (i0.status),nI (i0.pc),nI (i0.a),nI (i0.b),nI (i0.c),nI (i0.d),nI (i0.e),nI (i0.f),nI (i0.sudogs)],v1] Tryz.func9 rfl rfl (by simp) ?_
 intro a hF
 have hF0:Fr 39 a [(0,.agg #[nI (i0.id),nI (i0.status),nI (i0.pc),nI (i0.a),nI (i0.b),nI (i0.c),nI (i0.d),nI (i0.e),nI (i0.f),nI (i0.sudogs)]),(1,v1)]:=hF; clear hF
 unfold choose_Waits.m at hm
 obtain ⟨hl4,p1,c2,rfl,hp3⟩:=St.shapeY hS 0 rfl
 refine wp_seq (wp_region_lit ?_)
 refine ev_runs 1 hF0 (l':=[(2,nB w),(0,.agg #[nI (i0.id),nI (i0.status),nI (i0.pc),nI (i0.a),nI (i0.b),nI (i0.c),nI (i0.d),nI (i0.e),nI (i0.f),nI (i0.sudogs)]),(1,.slice p1 L1.length c2)]) (w':=w.alloc (.cells #[nI (i0.id),nI (i0.status),nI (i0.pc),nI (i0.a),nI (i0.b),nI (i0.c),nI (i0.d),nI (i0.e),nI (i0.f),nI (i0.sudogs)] 29)) (by kernel_rfl) ?_
 intro a6 hF5; clear hF0
 have hS8:St w0 F0 (BlkP (w.heap.size) 29 #[nI (i0.id),nI (i0.status),nI (i0.pc),nI (i0.a),nI (i0.b),nI (i0.c),nI (i0.d),nI (i0.e),nI (i0.f),nI (i0.sudogs)]::RowY kCs (.slice p1 L1.length c2) L1 o1::ps) (w.alloc (.cells #[nI (i0.id),nI (i0.status),nI (i0.pc),nI (i0.a),nI (i0.b),nI (i0.c),nI (i0.d),nI (i0.e),nI (i0.f),nI (i0.sudogs)] 29)):=St.new hS #[nI (i0.id),nI (i0.status),nI (i0.pc),nI (i0.a),nI (i0.b),nI (i0.c),nI (i0.d),nI (i0.e),nI (i0.f),nI (i0.sudogs)] 29
 have hS10:St w0 F0 (RowP (.slice none 0 0) []::BlkP (w.heap.size) 29 #[nI (i0.id),nI (i0.status),nI (i0.pc),nI (i0.a),nI (i0.b),nI (i0.c),nI (i0.d),nI (i0.e),nI (i0.f),nI (i0.sudogs)]::RowY kCs (.slice p1 L1.length c2) L1 o1::ps) (w.alloc (.cells #[nI (i0.id),nI (i0.status),nI (i0.pc),nI (i0.a),nI (i0.b),nI (i0.c),nI (i0.d),nI (i0.e),nI (i0.f),nI (i0.sudogs)] 29)):=St.nil hS8
 clear hS8
 refine ev_runK 1 hF5 [1,2] (l':=[(2,nB w),(1,.slice p1 L1.length c2)]) (w':=w.alloc (.cells #[nI (i0.id),nI (i0.status),nI (i0.pc),nI (i0.a),nI (i0.b),nI (i0.c),nI (i0.d),nI (i0.e),nI (i0.f),nI (i0.sudogs)] 29)) (by kernel_rfl) ?_
 intro a12 hF11; clear hF5
 refine wpList_nil ?_
 have hS13:=hS10.drop
 clear hS10
 refine thenN (wp_seq (wp_region_lit ?_))
 have hS15:St w0 F0 (RowP (.slice none 0 0) []::BlkP (w.heap.size) 29 #[nI (i0.id),nI (i0.status),nI (i0.pc),nI (i0.a),nI (i0.b),nI (i0.c),nI (i0.d),nI (i0.e),nI (i0.f),nI (i0.sudogs)]::RowY kCs (.slice p1 L1.length c2) L1 o1::ps) (w.alloc (.cells #[nI (i0.id),nI (i0.status),nI (i0.pc),nI (i0.a),nI (i0.b),nI (i0.c),nI (i0.d),nI (i0.e),nI (i0.f),nI (i0.sudogs)] 29)):=St.nil hS13
 clear hS13
 refine ev_runs 1 hF11 (l':=[(5,.slice none 0 0),(2,nB w),(1,.slice p1 L1.length c2)]) (w':=w.alloc (.cells #[nI (i0.id),nI (i0.status),nI (i0.pc),nI (i0.a),nI (i0.b),nI (i0.c),nI (i0.d),nI (i0.e),nI (i0.f),nI (i0.sudogs)] 29)) (by kernel_rfl) ?_
 intro a17 hF16; clear hF11
 refine wpList_nil (thenN (wp_seq (wp_seq (wp_region_lit ?_))))
 refine ev_runK 3 hF16 [2,5,10,11,12] (l':=[(12,nI 0),(11,nI ((L1.length:Int))),(10,.slice p1 L1.length c2),(5,.slice none 0 0),(2,nB w)]) (w':=w.alloc (.cells #[nI (i0.id),nI (i0.status),nI (i0.pc),nI (i0.a),nI (i0.b),nI (i0.c),nI (i0.d),nI (i0.e),nI (i0.f),nI (i0.sudogs)] 29)) (by kernel_rfl) ?_
 intro a19 hF18; clear hF16
 refine wpList_nil (thenN ?_)
 refine wp_block ?_
 refine wp_loop_ghost (fun kI aI wI=>∃ (v21:Value) (L20:List Int) (x22:Int),Fr 39 aI [(12,nI x22),(11,nI ((L1.length:Int))),(10,.slice p1 L1.length c2),(5,v21),(2,nB w)]∧St w0 F0 (RowP (v21) L20::BlkP (w.heap.size) 29 #[nI (i0.id),nI (i0.status),nI (i0.pc),nI (i0.a),nI (i0.b),nI (i0.c),nI (i0.d),nI (i0.e),nI (i0.f),nI (i0.sudogs)]::RowY kCs (.slice p1 L1.length c2) L1 o1::ps) wI∧choose_Waits.l7 i0 L1 k kI L20 x22=some r0) k ⟨.slice none 0 0,[],0,hF18,hS15,hm⟩ ?_
 rintro k23 a24 w25 ⟨v21,L20,x22,hF26,hS27,hm28⟩
 clear hF18 hS15 hm
 rcases k23 with _ | k23
 · cases hm28
 have hm29:choose_Waits.l7b i0 L1 k (choose_Waits.l7 i0 L1 k k23) L20 x22=some r0:=hm28
 clear hm28
 unfold choose_Waits.l7b at hm29
 obtain ⟨hl33,p30,c31,rfl,hp32⟩:=St.shape hS27 0 rfl
 refine wp_seq (wp_region_lit ?_)
 refine ev_runs 1 hF26 (l':=[(13,.bool (decide (x22<(L1.length:Int)))),(12,nI x22),(11,nI ((L1.length:Int))),(10,.slice p1 L1.length c2),(5,.slice p30 L20.length c31),(2,nB w)]) (w':=w25) (by kernel_rfl) ?_
 intro a35 hF34; clear hF26
 refine wpList_nil (thenN (wp_seq ?_))
 cases hc36:(decide (x22<(L1.length:Int)))
 case true =>
  rw [hc36] at hF34
  have hm37:=ifYes hc36 hm29; clear hm29
  refine ev_condT hF34 rfl rfl ?_
  refine wp_skip ?_
  have hF38:=hF34.keep [2,5,10,11,12]
  clear hF34
  refine thenN (wp_seq ?_)
  refine wp_block ?_
  refine wp_seq (wp_region_lit ?_)
  refine ev_runs 1 hF38 (l':=[(14,nI x22),(12,nI x22),(11,nI ((L1.length:Int))),(10,.slice p1 L1.length c2),(5,.slice p30 L20.length c31),(2,nB w)]) (w':=w25) (by kernel_rfl) ?_
  intro a40 hF39; clear hF38
  obtain ⟨hc41,hm42⟩:=ifTE hm37; clear hm37
  obtain ⟨g43,rfl⟩:=hp3.resolve_left (by have:=inR_spec hc41; omega)
  refine ev_one (nP g43 ((x22.toNat * 4))) w25 hF39 (by kernel_rfl) rfl (by kernel_rfl) (run_idxX rfl rfl (by kernel_rfl) rfl rfl (inR_spec hc41).1 (inR_spec hc41).2 _) (l':=[(15,nP g43 ((x22.toNat * 4))),(14,nI x22),(12,nI x22),(11,nI ((L1.length:Int))),(10,.slice (some ⟨g43,0,none⟩) L1.length c2),(5,.slice p30 L20.length c31),(2,nB w)]) (by kernel_rfl) ?_
  intro a45 hF44; clear hF39
  refine ev_one (.agg #[nI ((atX kCs L1 x22).kind),nI ((atX kCs L1 x22).ch),nI ((atX kCs L1 x22).reg),nI ((atX kCs L1 x22).to)]) w25 hF44 (by kernel_rfl) rfl (by kernel_rfl) (run_loadV rfl rfl (run_loadA (cs:=[nI ((atX kCs L1 x22).kind),nI ((atX kCs L1 x22).ch),nI ((atX kCs L1 x22).reg),nI ((atX kCs L1 x22).to)]) rfl rfl (by kernel_rfl) (St.atY (cs:=[nI ((atX kCs L1 x22).kind),nI ((atX kCs L1 x22).ch),nI ((atX kCs L1 x22).reg),nI ((atX kCs L1 x22).to)]) hS27 2 rfl hc41 rfl))) (l':=[(16,.agg #[nI ((atX kCs L1 x22).kind),nI ((atX kCs L1 x22).ch),nI ((atX kCs L1 x22).reg),nI ((atX kCs L1 x22).to)]),(15,nP g43 ((x22.toNat * 4))),(14,nI x22),(12,nI x22),(11,nI ((L1.length:Int))),(10,.slice (some ⟨g43,0,none⟩) L1.length c2),(5,.slice p30 L20.length c31),(2,nB w)]) (by kernel_rfl) ?_
  intro a47 hF46; clear hF44
  refine ev_runs 1 hF46 (l':=[(7,nB w25),(16,.agg #[nI ((atX kCs L1 x22).kind),nI ((atX kCs L1 x22).ch),nI ((atX kCs L1 x22).reg),nI ((atX kCs L1 x22).to)]),(15,nP g43 ((x22.toNat * 4))),(14,nI x22),(12,nI x22),(11,nI ((L1.length:Int))),(10,.slice (some ⟨g43,0,none⟩) L1.length c2),(5,.slice p30 L20.length c31),(2,nB w)]) (w':=w25.alloc (.cells #[nI 0,nI 0,nI 0,nI 0] 33)) (by kernel_rfl) ?_
  intro a49 hF48; clear hF46
  have hS51:St w0 F0 (BlkP (w25.heap.size) 33 #[nI 0,nI 0,nI 0,nI 0]::RowP (.slice p30 L20.length c31) L20::BlkP (w.heap.size) 29 #[nI (i0.id),nI (i0.status),nI (i0.pc),nI (i0.a),nI (i0.b),nI (i0.c),nI (i0.d),nI (i0.e),nI (i0.f),nI (i0.sudogs)]::RowY kCs (.slice (some ⟨g43,0,none⟩) L1.length c2) L1 o1::ps) (w25.alloc (.cells #[nI 0,nI 0,nI 0,nI 0] 33)):=St.new hS27 #[nI 0,nI 0,nI 0,nI 0] 33
  clear hS27
  refine ev_runs 1 hF48 (l':=[(6,nI x22),(7,nB w25),(16,.agg #[nI ((atX kCs L1 x22).kind),nI ((atX kCs L1 x22).ch),nI ((atX kCs L1 x22).reg),nI ((atX kCs L1 x22).to)]),(15,nP g43 ((x22.toNat * 4))),(14,nI x22),(12,nI x22),(11,nI ((L1.length:Int))),(10,.slice (some ⟨g43,0,none⟩) L1.length c2),(5,.slice p30 L20.length c31),(2,nB w)]) (w':=w25.alloc (.cells #[nI 0,nI 0,nI 0,nI 0] 33)) (by kernel_rfl) ?_
  intro a53 hF52; clear hF48
  refine ev_store (.agg #[nI ((atX kCs L1 x22).kind),nI ((atX kCs L1 x22).ch),nI ((atX kCs L1 x22).reg),nI ((atX kCs L1 x22).to)]) #[nI ((atX kCs L1 x22).kind),nI ((atX kCs L1 x22).ch),nI ((atX kCs L1 x22).reg),nI ((atX kCs L1 x22).to)] hF52 (by kernel_rfl) rfl rfl rfl rfl (by kernel_rfl) hS51 (by kernel_rfl) (by kernel_rfl) (by kernel_rfl) (l':=[(6,nI x22),(7,nB w25),(16,.agg #[nI ((atX kCs L1 x22).kind),nI ((atX kCs L1 x22).ch),nI ((atX kCs L1 x22).reg),nI ((atX kCs L1 x22).to)]),(15,nP g43 ((x22.toNat * 4))),(14,nI x22),(12,nI x22),(11,nI ((L1.length:Int))),(10,.slice (some ⟨g43,0,none⟩) L1.length c2),(5,.slice p30 L20.length c31),(2,nB w)]) (by kernel_rfl) ?_
  intro w54 a55 hS56 hF57; clear hF52 hS51
  refine wpList_nil ?_
  have hF58:=hF57.keep [2,5,6,7,10,11,12]
  clear hF57
  refine thenN (wp_seq (wp_region_lit ?_))
  refine ev_one (.agg #[nI (i0.id),nI (i0.status),nI (i0.pc),nI (i0.a),nI (i0.b),nI (i0.c),nI (i0.d),nI (i0.e),nI (i0.f),nI (i0.sudogs)]) w54 hF58 (by kernel_rfl) rfl (by kernel_rfl) (run_loadV rfl rfl (run_loadA (cs:=[nI (i0.id),nI (i0.status),nI (i0.pc),nI (i0.a),nI (i0.b),nI (i0.c),nI (i0.d),nI (i0.e),nI (i0.f),nI (i0.sudogs)]) rfl rfl (by kernel_rfl) (blk_cells hS56 2 rfl rfl))) (l':=[(18,.agg #[nI (i0.id),nI (i0.status),nI (i0.pc),nI (i0.a),nI (i0.b),nI (i0.c),nI (i0.d),nI (i0.e),nI (i0.f),nI (i0.sudogs)]),(6,nI x22),(7,nB w25),(12,nI x22),(11,nI ((L1.length:Int))),(10,.slice (some ⟨g43,0,none⟩) L1.length c2),(5,.slice p30 L20.length c31),(2,nB w)]) (by kernel_rfl) ?_
  intro a60 hF59; clear hF58
  refine ev_one (.agg #[nI ((atX kCs L1 x22).kind),nI ((atX kCs L1 x22).ch),nI ((atX kCs L1 x22).reg),nI ((atX kCs L1 x22).to)]) w54 hF59 (by kernel_rfl) rfl (by kernel_rfl) (run_loadV rfl rfl (run_loadA (cs:=[nI ((atX kCs L1 x22).kind),nI ((atX kCs L1 x22).ch),nI ((atX kCs L1 x22).reg),nI ((atX kCs L1 x22).to)]) rfl rfl (by kernel_rfl) (blk_cells hS56 0 rfl rfl))) (l':=[(19,.agg #[nI ((atX kCs L1 x22).kind),nI ((atX kCs L1 x22).ch),nI ((atX kCs L1 x22).reg),nI ((atX kCs L1 x22).to)]),(18,.agg #[nI (i0.id),nI (i0.status),nI (i0.pc),nI (i0.a),nI (i0.b),nI (i0.c),nI (i0.d),nI (i0.e),nI (i0.f),nI (i0.sudogs)]),(6,nI x22),(7,nB w25),(12,nI x22),(11,nI ((L1.length:Int))),(10,.slice (some ⟨g43,0,none⟩) L1.length c2),(5,.slice p30 L20.length c31),(2,nB w)]) (by kernel_rfl) ?_
  intro a62 hF61; clear hF59
  refine ev_call 19 #[.agg #[nI (i0.id),nI (i0.status),nI (i0.pc),nI (i0.a),nI (i0.b),nI (i0.c),nI (i0.d),nI (i0.e),nI (i0.f),nI (i0.sudogs)],.agg #[nI ((atX kCs L1 x22).kind),nI ((atX kCs L1 x22).ch),nI ((atX kCs L1 x22).reg),nI ((atX kCs L1 x22).to)]] hF61 rfl rfl (by kernel_rfl) rfl (by kernel_rfl) (fun w=>by kernel_rfl) ?_
  obtain ⟨o63,hx64,hm65⟩:=bind1E hm42; clear hm42
  refine (choose_of.ok hS56 hx64).mono ?_
  rintro _ w66 ⟨rfl,hS68⟩ a67 hF69; clear hF61 hS56
  cases o63 with
  | none =>
   have hm70:=optN hm65; clear hm65
   refine ev_runs 5 hF69 (l':=[(8,nB w66),(23,.bool false),(22,.agg #[]),(17,.tuple #[.agg #[],.bool false]),(21,.tuple #[.agg #[],.bool false]),(20,.nilIface),(19,.agg #[nI ((atX kCs L1 x22).kind),nI ((atX kCs L1 x22).ch),nI ((atX kCs L1 x22).reg),nI ((atX kCs L1 x22).to)]),(18,.agg #[nI (i0.id),nI (i0.status),nI (i0.pc),nI (i0.a),nI (i0.b),nI (i0.c),nI (i0.d),nI (i0.e),nI (i0.f),nI (i0.sudogs)]),(6,nI x22),(7,nB w25),(12,nI x22),(11,nI ((L1.length:Int))),(10,.slice (some ⟨g43,0,none⟩) L1.length c2),(5,.slice p30 L20.length c31),(2,nB w)]) (w':=w66.alloc (.cells #[] 57)) (by kernel_rfl) ?_
   intro a72 hF71; clear hF69
   have hS74:St w0 F0 (BlkP (w66.heap.size) 57 #[]::BlkP (w25.heap.size) 33 #[nI ((atX kCs L1 x22).kind),nI ((atX kCs L1 x22).ch),nI ((atX kCs L1 x22).reg),nI ((atX kCs L1 x22).to)]::RowP (.slice p30 L20.length c31) L20::BlkP (w.heap.size) 29 #[nI (i0.id),nI (i0.status),nI (i0.pc),nI (i0.a),nI (i0.b),nI (i0.c),nI (i0.d),nI (i0.e),nI (i0.f),nI (i0.sudogs)]::RowY kCs (.slice (some ⟨g43,0,none⟩) L1.length c2) L1 o1::ps) (w66.alloc (.cells #[] 57)):=St.new hS68 #[] 57
   clear hS68
   refine ev_store (.agg #[]) #[] hF71 (by kernel_rfl) rfl rfl rfl rfl (by kernel_rfl) hS74 (by kernel_rfl) (by kernel_rfl) (by kernel_rfl) (l':=[(8,nB w66),(23,.bool false),(22,.agg #[]),(17,.tuple #[.agg #[],.bool false]),(21,.tuple #[.agg #[],.bool false]),(20,.nilIface),(19,.agg #[nI ((atX kCs L1 x22).kind),nI ((atX kCs L1 x22).ch),nI ((atX kCs L1 x22).reg),nI ((atX kCs L1 x22).to)]),(18,.agg #[nI (i0.id),nI (i0.status),nI (i0.pc),nI (i0.a),nI (i0.b),nI (i0.c),nI (i0.d),nI (i0.e),nI (i0.f),nI (i0.sudogs)]),(6,nI x22),(7,nB w25),(12,nI x22),(11,nI ((L1.length:Int))),(10,.slice (some ⟨g43,0,none⟩) L1.length c2),(5,.slice p30 L20.length c31),(2,nB w)]) (by kernel_rfl) ?_
   intro w75 a76 hS77 hF78; clear hF71 hS74
   refine ev_runK 1 hF78 [2,5,6,7,9,10,11,12] (l':=[(9,.bool false),(6,nI x22),(7,nB w25),(12,nI x22),(11,nI ((L1.length:Int))),(10,.slice (some ⟨g43,0,none⟩) L1.length c2),(5,.slice p30 L20.length c31),(2,nB w)]) (w':=w75) (by kernel_rfl) ?_
   intro a80 hF79; clear hF78
   refine wpList_nil ?_
   have hS81:=hS77.drop
   clear hS77
   refine thenN (wp_seq (wp_region_lit ?_))
   refine ev_runs 3 hF79 (l':=[(26,.bool true),(25,.bool true),(24,.bool false),(9,.bool false),(6,nI x22),(7,nB w25),(12,nI x22),(11,nI ((L1.length:Int))),(10,.slice (some ⟨g43,0,none⟩) L1.length c2),(5,.slice p30 L20.length c31),(2,nB w)]) (w':=w75) (by kernel_rfl) ?_
   intro a83 hF82; clear hF79
   refine ev_one (.agg #[nI (i0.id),nI (i0.status),nI (i0.pc),nI (i0.a),nI (i0.b),nI (i0.c),nI (i0.d),nI (i0.e),nI (i0.f),nI (i0.sudogs)]) w75 hF82 (by kernel_rfl) rfl (by kernel_rfl) (run_loadV rfl rfl (run_loadA (cs:=[nI (i0.id),nI (i0.status),nI (i0.pc),nI (i0.a),nI (i0.b),nI (i0.c),nI (i0.d),nI (i0.e),nI (i0.f),nI (i0.sudogs)]) rfl rfl (by kernel_rfl) (blk_cells hS81 2 rfl rfl))) (l':=[(27,.agg #[nI (i0.id),nI (i0.status),nI (i0.pc),nI (i0.a),nI (i0.b),nI (i0.c),nI (i0.d),nI (i0.e),nI (i0.f),nI (i0.sudogs)]),(26,.bool true),(25,.bool true),(24,.bool false),(9,.bool false),(6,nI x22),(7,nB w25),(12,nI x22),(11,nI ((L1.length:Int))),(10,.slice (some ⟨g43,0,none⟩) L1.length c2),(5,.slice p30 L20.length c31),(2,nB w)]) (by kernel_rfl) ?_
   intro a85 hF84; clear hF82
   refine ev_runs 1 hF84 (l':=[(28,nP (w25.heap.size) 1),(27,.agg #[nI (i0.id),nI (i0.status),nI (i0.pc),nI (i0.a),nI (i0.b),nI (i0.c),nI (i0.d),nI (i0.e),nI (i0.f),nI (i0.sudogs)]),(26,.bool true),(25,.bool true),(24,.bool false),(9,.bool false),(6,nI x22),(7,nB w25),(12,nI x22),(11,nI ((L1.length:Int))),(10,.slice (some ⟨g43,0,none⟩) L1.length c2),(5,.slice p30 L20.length c31),(2,nB w)]) (w':=w75) (by kernel_rfl) ?_
   intro a87 hF86; clear hF84
   refine ev_one (nI ((atX kCs L1 x22).ch)) w75 hF86 (by kernel_rfl) rfl (by kernel_rfl) (run_loadV rfl rfl (run_loadS rfl rfl (hS81.cell 0 rfl 1 rfl))) (l':=[(29,nI ((atX kCs L1 x22).ch)),(28,nP (w25.heap.size) 1),(27,.agg #[nI (i0.id),nI (i0.status),nI (i0.pc),nI (i0.a),nI (i0.b),nI (i0.c),nI (i0.d),nI (i0.e),nI (i0.f),nI (i0.sudogs)]),(26,.bool true),(25,.bool true),(24,.bool false),(9,.bool false),(6,nI x22),(7,nB w25),(12,nI x22),(11,nI ((L1.length:Int))),(10,.slice (some ⟨g43,0,none⟩) L1.length c2),(5,.slice p30 L20.length c31),(2,nB w)]) (by kernel_rfl) ?_
   intro a89 hF88; clear hF86
   refine ev_call 22 #[.agg #[nI (i0.id),nI (i0.status),nI (i0.pc),nI (i0.a),nI (i0.b),nI (i0.c),nI (i0.d),nI (i0.e),nI (i0.f),nI (i0.sudogs)],nI ((atX kCs L1 x22).ch)] hF88 rfl rfl (by kernel_rfl) rfl (by kernel_rfl) (fun w=>by kernel_rfl) ?_
   obtain ⟨x90,hx91,hm92⟩:=bind1E hm70; clear hm70
   refine (choose_word.ok hS81 hx91).mono ?_
   rintro _ w93 ⟨rfl,hS95⟩ a94 hF96; clear hF88 hS81
   refine ev_call 21 #[nI x90] hF96 rfl rfl (by kernel_rfl) rfl (by kernel_rfl) (fun w=>by kernel_rfl) ?_
   refine (p_vIsPtr hS95).mono ?_
   rintro _ w97 ⟨rfl,hS99⟩ a98 hF100; clear hF96 hS95
   refine ev_runK 1 hF100 [2,5,6,10,11,12,32] (l':=[(32,.bool (vIsPtr x90)),(6,nI x22),(12,nI x22),(11,nI ((L1.length:Int))),(10,.slice (some ⟨g43,0,none⟩) L1.length c2),(5,.slice p30 L20.length c31),(2,nB w)]) (w':=w97) (by kernel_rfl) ?_
   intro a102 hF101; clear hF100
   refine wpList_nil ?_
   have hS103:=hS99.drop
   clear hS99
   refine thenN ?_
   refine joinQ (fun aI wI=>∃ (v105:Value) (L104:List Int),Fr 39 aI [(12,nI x22),(11,nI ((L1.length:Int))),(10,.slice (some ⟨g43,0,none⟩) L1.length c2),(5,v105),(2,nB w)]∧St w0 F0 (RowP (v105) L104::BlkP (w.heap.size) 29 #[nI (i0.id),nI (i0.status),nI (i0.pc),nI (i0.a),nI (i0.b),nI (i0.c),nI (i0.d),nI (i0.e),nI (i0.f),nI (i0.sudogs)]::RowY kCs (.slice (some ⟨g43,0,none⟩) L1.length c2) L1 o1::ps) wI∧choose_Waits.j8 x22 (choose_Waits.l7 i0 L1 k k23) L104=some r0) ?_ ?_
   rotate_left
   · rintro a107 w108 ⟨v105,L104,hF109,hS110,hm111⟩
     clear hF101 hS103 hm92
     unfold choose_Waits.j8 at hm111
     obtain ⟨hl116,p113,c114,rfl,hp115⟩:=St.shape hS110 0 rfl
     refine blockN ?_
     refine thenN (wp_region_lit ?_)
     refine ev_runK 2 hF109 [2,5,10,11,12] (l':=[(12,nI (IntKind.i64.wrap (x22+1))),(11,nI ((L1.length:Int))),(10,.slice (some ⟨g43,0,none⟩) L1.length c2),(5,.slice p113 L104.length c114),(2,nB w)]) (w':=w108) (by kernel_rfl) ?_
     intro a118 hF117; clear hF109
     refine wpList_nil ?_
     exact thenN ⟨k23,Nat.lt_succ_self _,.slice p113 L104.length c114,L104,IntKind.i64.wrap (x22+1),hF117,hS110,hm111⟩
   · skip
     cases hc119:(vIsPtr x90)
     case true =>
      rw [hc119] at hF101
      have hm120:=ifYes hc119 hm92; clear hm92
      refine ev_condT hF101 rfl rfl ?_
      refine wp_region_lit ?_
      refine ev_runs 3 hF101 (l':=[(35,.slice (some ⟨w97.heap.size,0,none⟩) 1 1),(34,nI x22),(33,.slice p30 L20.length c31),(32,.bool true),(6,nI x22),(12,nI x22),(11,nI ((L1.length:Int))),(10,.slice (some ⟨g43,0,none⟩) L1.length c2),(5,.slice p30 L20.length c31),(2,nB w)]) (w':=w97.alloc (.cells #[nI x22] 3)) (by kernel_rfl) ?_
      intro a122 hF121; clear hF101
      obtain ⟨L123,hx124,hm125⟩:=bind1E hm120; clear hm120
      refine ev_push 36 (.tmp 33) (.tmp 35) hF121 rfl rfl rfl rfl rfl rfl rfl rfl hS103 hx124 ?_
      intro g126 c127 w128 a129 hS130 hF131; clear hF121 hS103
      refine ev_runK 1 hF131 [2,5,10,11,12] (l':=[(5,nS g126 L123 c127),(12,nI x22),(11,nI ((L1.length:Int))),(10,.slice (some ⟨g43,0,none⟩) L1.length c2),(2,nB w)]) (w':=w128) (by kernel_rfl) ?_
      intro a133 hF132; clear hF131
      refine wpList_nil ?_
      have hF134:Fr 39 a133 [(12,nI x22),(11,nI ((L1.length:Int))),(10,.slice (some ⟨g43,0,none⟩) L1.length c2),(5,nS g126 L123 c127),(2,nB w)]:=Fr.re hF132 (by kernel_rfl)
      clear hF132
      exact thenN ⟨nS g126 L123 c127,L123,hF134,hS130,hm125⟩
     rw [hc119] at hF101
     have hm135:=ifNot hc119 hm92; clear hm92
     refine ev_condF hF101 rfl rfl ?_
     refine wp_skip ?_
     have hF136:=hF101.keep [2,5,10,11,12]
     clear hF101
     exact thenN ⟨.slice p30 L20.length c31,L20,hF136,hS103,hm135⟩
  | some q137 =>
   have hm138:=optS hm65; clear hm65
   cases q137 with
   | inl q139 =>
    have hm141:=sumL hm138; clear hm138
    refine ev_runs 5 hF69 (l':=[(8,nB w66),(23,.bool false),(22,.agg #[]),(17,.tuple #[.agg #[],.bool false]),(21,.tuple #[.agg #[],.bool false]),(20,.iface 88 (.agg #[nI q139])),(19,.agg #[nI ((atX kCs L1 x22).kind),nI ((atX kCs L1 x22).ch),nI ((atX kCs L1 x22).reg),nI ((atX kCs L1 x22).to)]),(18,.agg #[nI (i0.id),nI (i0.status),nI (i0.pc),nI (i0.a),nI (i0.b),nI (i0.c),nI (i0.d),nI (i0.e),nI (i0.f),nI (i0.sudogs)]),(6,nI x22),(7,nB w25),(12,nI x22),(11,nI ((L1.length:Int))),(10,.slice (some ⟨g43,0,none⟩) L1.length c2),(5,.slice p30 L20.length c31),(2,nB w)]) (w':=w66.alloc (.cells #[] 57)) (by kernel_rfl) ?_
    intro a143 hF142; clear hF69
    have hS145:St w0 F0 (BlkP (w66.heap.size) 57 #[]::BlkP (w25.heap.size) 33 #[nI ((atX kCs L1 x22).kind),nI ((atX kCs L1 x22).ch),nI ((atX kCs L1 x22).reg),nI ((atX kCs L1 x22).to)]::RowP (.slice p30 L20.length c31) L20::BlkP (w.heap.size) 29 #[nI (i0.id),nI (i0.status),nI (i0.pc),nI (i0.a),nI (i0.b),nI (i0.c),nI (i0.d),nI (i0.e),nI (i0.f),nI (i0.sudogs)]::RowY kCs (.slice (some ⟨g43,0,none⟩) L1.length c2) L1 o1::ps) (w66.alloc (.cells #[] 57)):=St.new hS68 #[] 57
    clear hS68
    refine ev_store (.agg #[]) #[] hF142 (by kernel_rfl) rfl rfl rfl rfl (by kernel_rfl) hS145 (by kernel_rfl) (by kernel_rfl) (by kernel_rfl) (l':=[(8,nB w66),(23,.bool false),(22,.agg #[]),(17,.tuple #[.agg #[],.bool false]),(21,.tuple #[.agg #[],.bool false]),(20,.iface 88 (.agg #[nI q139])),(19,.agg #[nI ((atX kCs L1 x22).kind),nI ((atX kCs L1 x22).ch),nI ((atX kCs L1 x22).reg),nI ((atX kCs L1 x22).to)]),(18,.agg #[nI (i0.id),nI (i0.status),nI (i0.pc),nI (i0.a),nI (i0.b),nI (i0.c),nI (i0.d),nI (i0.e),nI (i0.f),nI (i0.sudogs)]),(6,nI x22),(7,nB w25),(12,nI x22),(11,nI ((L1.length:Int))),(10,.slice (some ⟨g43,0,none⟩) L1.length c2),(5,.slice p30 L20.length c31),(2,nB w)]) (by kernel_rfl) ?_
    intro w146 a147 hS148 hF149; clear hF142 hS145
    refine ev_runK 1 hF149 [2,5,6,7,9,10,11,12] (l':=[(9,.bool false),(6,nI x22),(7,nB w25),(12,nI x22),(11,nI ((L1.length:Int))),(10,.slice (some ⟨g43,0,none⟩) L1.length c2),(5,.slice p30 L20.length c31),(2,nB w)]) (w':=w146) (by kernel_rfl) ?_
    intro a151 hF150; clear hF149
    refine wpList_nil ?_
    have hS152:=hS148.drop
    clear hS148
    refine thenN (wp_seq (wp_region_lit ?_))
    refine ev_runs 3 hF150 (l':=[(26,.bool true),(25,.bool true),(24,.bool false),(9,.bool false),(6,nI x22),(7,nB w25),(12,nI x22),(11,nI ((L1.length:Int))),(10,.slice (some ⟨g43,0,none⟩) L1.length c2),(5,.slice p30 L20.length c31),(2,nB w)]) (w':=w146) (by kernel_rfl) ?_
    intro a154 hF153; clear hF150
    refine ev_one (.agg #[nI (i0.id),nI (i0.status),nI (i0.pc),nI (i0.a),nI (i0.b),nI (i0.c),nI (i0.d),nI (i0.e),nI (i0.f),nI (i0.sudogs)]) w146 hF153 (by kernel_rfl) rfl (by kernel_rfl) (run_loadV rfl rfl (run_loadA (cs:=[nI (i0.id),nI (i0.status),nI (i0.pc),nI (i0.a),nI (i0.b),nI (i0.c),nI (i0.d),nI (i0.e),nI (i0.f),nI (i0.sudogs)]) rfl rfl (by kernel_rfl) (blk_cells hS152 2 rfl rfl))) (l':=[(27,.agg #[nI (i0.id),nI (i0.status),nI (i0.pc),nI (i0.a),nI (i0.b),nI (i0.c),nI (i0.d),nI (i0.e),nI (i0.f),nI (i0.sudogs)]),(26,.bool true),(25,.bool true),(24,.bool false),(9,.bool false),(6,nI x22),(7,nB w25),(12,nI x22),(11,nI ((L1.length:Int))),(10,.slice (some ⟨g43,0,none⟩) L1.length c2),(5,.slice p30 L20.length c31),(2,nB w)]) (by kernel_rfl) ?_
    intro a156 hF155; clear hF153
    refine ev_runs 1 hF155 (l':=[(28,nP (w25.heap.size) 1),(27,.agg #[nI (i0.id),nI (i0.status),nI (i0.pc),nI (i0.a),nI (i0.b),nI (i0.c),nI (i0.d),nI (i0.e),nI (i0.f),nI (i0.sudogs)]),(26,.bool true),(25,.bool true),(24,.bool false),(9,.bool false),(6,nI x22),(7,nB w25),(12,nI x22),(11,nI ((L1.length:Int))),(10,.slice (some ⟨g43,0,none⟩) L1.length c2),(5,.slice p30 L20.length c31),(2,nB w)]) (w':=w146) (by kernel_rfl) ?_
    intro a158 hF157; clear hF155
    refine ev_one (nI ((atX kCs L1 x22).ch)) w146 hF157 (by kernel_rfl) rfl (by kernel_rfl) (run_loadV rfl rfl (run_loadS rfl rfl (hS152.cell 0 rfl 1 rfl))) (l':=[(29,nI ((atX kCs L1 x22).ch)),(28,nP (w25.heap.size) 1),(27,.agg #[nI (i0.id),nI (i0.status),nI (i0.pc),nI (i0.a),nI (i0.b),nI (i0.c),nI (i0.d),nI (i0.e),nI (i0.f),nI (i0.sudogs)]),(26,.bool true),(25,.bool true),(24,.bool false),(9,.bool false),(6,nI x22),(7,nB w25),(12,nI x22),(11,nI ((L1.length:Int))),(10,.slice (some ⟨g43,0,none⟩) L1.length c2),(5,.slice p30 L20.length c31),(2,nB w)]) (by kernel_rfl) ?_
    intro a160 hF159; clear hF157
    refine ev_call 22 #[.agg #[nI (i0.id),nI (i0.status),nI (i0.pc),nI (i0.a),nI (i0.b),nI (i0.c),nI (i0.d),nI (i0.e),nI (i0.f),nI (i0.sudogs)],nI ((atX kCs L1 x22).ch)] hF159 rfl rfl (by kernel_rfl) rfl (by kernel_rfl) (fun w=>by kernel_rfl) ?_
    obtain ⟨x161,hx162,hm163⟩:=bind1E hm141; clear hm141
    refine (choose_word.ok hS152 hx162).mono ?_
    rintro _ w164 ⟨rfl,hS166⟩ a165 hF167; clear hF159 hS152
    refine ev_call 21 #[nI x161] hF167 rfl rfl (by kernel_rfl) rfl (by kernel_rfl) (fun w=>by kernel_rfl) ?_
    refine (p_vIsPtr hS166).mono ?_
    rintro _ w168 ⟨rfl,hS170⟩ a169 hF171; clear hF167 hS166
    refine ev_runK 1 hF171 [2,5,6,10,11,12,32] (l':=[(32,.bool (vIsPtr x161)),(6,nI x22),(12,nI x22),(11,nI ((L1.length:Int))),(10,.slice (some ⟨g43,0,none⟩) L1.length c2),(5,.slice p30 L20.length c31),(2,nB w)]) (w':=w168) (by kernel_rfl) ?_
    intro a173 hF172; clear hF171
    refine wpList_nil ?_
    have hS174:=hS170.drop
    clear hS170
    refine thenN ?_
    refine joinQ (fun aI wI=>∃ (v176:Value) (L175:List Int),Fr 39 aI [(12,nI x22),(11,nI ((L1.length:Int))),(10,.slice (some ⟨g43,0,none⟩) L1.length c2),(5,v176),(2,nB w)]∧St w0 F0 (RowP (v176) L175::BlkP (w.heap.size) 29 #[nI (i0.id),nI (i0.status),nI (i0.pc),nI (i0.a),nI (i0.b),nI (i0.c),nI (i0.d),nI (i0.e),nI (i0.f),nI (i0.sudogs)]::RowY kCs (.slice (some ⟨g43,0,none⟩) L1.length c2) L1 o1::ps) wI∧choose_Waits.j9 x22 (choose_Waits.l7 i0 L1 k k23) L175=some r0) ?_ ?_
    rotate_left
    · rintro a178 w179 ⟨v176,L175,hF180,hS181,hm182⟩
      clear hF172 hS174 hm163
      unfold choose_Waits.j9 at hm182
      obtain ⟨hl187,p184,c185,rfl,hp186⟩:=St.shape hS181 0 rfl
      refine blockN ?_
      refine thenN (wp_region_lit ?_)
      refine ev_runK 2 hF180 [2,5,10,11,12] (l':=[(12,nI (IntKind.i64.wrap (x22+1))),(11,nI ((L1.length:Int))),(10,.slice (some ⟨g43,0,none⟩) L1.length c2),(5,.slice p184 L175.length c185),(2,nB w)]) (w':=w179) (by kernel_rfl) ?_
      intro a189 hF188; clear hF180
      refine wpList_nil ?_
      exact thenN ⟨k23,Nat.lt_succ_self _,.slice p184 L175.length c185,L175,IntKind.i64.wrap (x22+1),hF188,hS181,hm182⟩
    · skip
      cases hc190:(vIsPtr x161)
      case true =>
       rw [hc190] at hF172
       have hm191:=ifYes hc190 hm163; clear hm163
       refine ev_condT hF172 rfl rfl ?_
       refine wp_region_lit ?_
       refine ev_runs 3 hF172 (l':=[(35,.slice (some ⟨w168.heap.size,0,none⟩) 1 1),(34,nI x22),(33,.slice p30 L20.length c31),(32,.bool true),(6,nI x22),(12,nI x22),(11,nI ((L1.length:Int))),(10,.slice (some ⟨g43,0,none⟩) L1.length c2),(5,.slice p30 L20.length c31),(2,nB w)]) (w':=w168.alloc (.cells #[nI x22] 3)) (by kernel_rfl) ?_
       intro a193 hF192; clear hF172
       obtain ⟨L194,hx195,hm196⟩:=bind1E hm191; clear hm191
       refine ev_push 36 (.tmp 33) (.tmp 35) hF192 rfl rfl rfl rfl rfl rfl rfl rfl hS174 hx195 ?_
       intro g197 c198 w199 a200 hS201 hF202; clear hF192 hS174
       refine ev_runK 1 hF202 [2,5,10,11,12] (l':=[(5,nS g197 L194 c198),(12,nI x22),(11,nI ((L1.length:Int))),(10,.slice (some ⟨g43,0,none⟩) L1.length c2),(2,nB w)]) (w':=w199) (by kernel_rfl) ?_
       intro a204 hF203; clear hF202
       refine wpList_nil ?_
       have hF205:Fr 39 a204 [(12,nI x22),(11,nI ((L1.length:Int))),(10,.slice (some ⟨g43,0,none⟩) L1.length c2),(5,nS g197 L194 c198),(2,nB w)]:=Fr.re hF203 (by kernel_rfl)
       clear hF203
       exact thenN ⟨nS g197 L194 c198,L194,hF205,hS201,hm196⟩
      rw [hc190] at hF172
      have hm206:=ifNot hc190 hm163; clear hm163
      refine ev_condF hF172 rfl rfl ?_
      refine wp_skip ?_
      have hF207:=hF172.keep [2,5,10,11,12]
      clear hF172
      exact thenN ⟨.slice p30 L20.length c31,L20,hF207,hS174,hm206⟩
   | inr q140 =>
    have hm208:=sumR hm138; clear hm138
    cases q140 with
    | inl q209 =>
     have hm211:=sumL hm208; clear hm208
     refine ev_runs 5 hF69 (l':=[(8,nB w66),(23,.bool false),(22,.agg #[]),(17,.tuple #[.agg #[],.bool false]),(21,.tuple #[.agg #[],.bool false]),(20,.iface 89 (.agg #[nI q209])),(19,.agg #[nI ((atX kCs L1 x22).kind),nI ((atX kCs L1 x22).ch),nI ((atX kCs L1 x22).reg),nI ((atX kCs L1 x22).to)]),(18,.agg #[nI (i0.id),nI (i0.status),nI (i0.pc),nI (i0.a),nI (i0.b),nI (i0.c),nI (i0.d),nI (i0.e),nI (i0.f),nI (i0.sudogs)]),(6,nI x22),(7,nB w25),(12,nI x22),(11,nI ((L1.length:Int))),(10,.slice (some ⟨g43,0,none⟩) L1.length c2),(5,.slice p30 L20.length c31),(2,nB w)]) (w':=w66.alloc (.cells #[] 57)) (by kernel_rfl) ?_
     intro a213 hF212; clear hF69
     have hS215:St w0 F0 (BlkP (w66.heap.size) 57 #[]::BlkP (w25.heap.size) 33 #[nI ((atX kCs L1 x22).kind),nI ((atX kCs L1 x22).ch),nI ((atX kCs L1 x22).reg),nI ((atX kCs L1 x22).to)]::RowP (.slice p30 L20.length c31) L20::BlkP (w.heap.size) 29 #[nI (i0.id),nI (i0.status),nI (i0.pc),nI (i0.a),nI (i0.b),nI (i0.c),nI (i0.d),nI (i0.e),nI (i0.f),nI (i0.sudogs)]::RowY kCs (.slice (some ⟨g43,0,none⟩) L1.length c2) L1 o1::ps) (w66.alloc (.cells #[] 57)):=St.new hS68 #[] 57
     clear hS68
     refine ev_store (.agg #[]) #[] hF212 (by kernel_rfl) rfl rfl rfl rfl (by kernel_rfl) hS215 (by kernel_rfl) (by kernel_rfl) (by kernel_rfl) (l':=[(8,nB w66),(23,.bool false),(22,.agg #[]),(17,.tuple #[.agg #[],.bool false]),(21,.tuple #[.agg #[],.bool false]),(20,.iface 89 (.agg #[nI q209])),(19,.agg #[nI ((atX kCs L1 x22).kind),nI ((atX kCs L1 x22).ch),nI ((atX kCs L1 x22).reg),nI ((atX kCs L1 x22).to)]),(18,.agg #[nI (i0.id),nI (i0.status),nI (i0.pc),nI (i0.a),nI (i0.b),nI (i0.c),nI (i0.d),nI (i0.e),nI (i0.f),nI (i0.sudogs)]),(6,nI x22),(7,nB w25),(12,nI x22),(11,nI ((L1.length:Int))),(10,.slice (some ⟨g43,0,none⟩) L1.length c2),(5,.slice p30 L20.length c31),(2,nB w)]) (by kernel_rfl) ?_
     intro w216 a217 hS218 hF219; clear hF212 hS215
     refine ev_runK 1 hF219 [2,5,6,7,9,10,11,12] (l':=[(9,.bool false),(6,nI x22),(7,nB w25),(12,nI x22),(11,nI ((L1.length:Int))),(10,.slice (some ⟨g43,0,none⟩) L1.length c2),(5,.slice p30 L20.length c31),(2,nB w)]) (w':=w216) (by kernel_rfl) ?_
     intro a221 hF220; clear hF219
     refine wpList_nil ?_
     have hS222:=hS218.drop
     clear hS218
     refine thenN (wp_seq (wp_region_lit ?_))
     refine ev_runs 3 hF220 (l':=[(26,.bool true),(25,.bool true),(24,.bool false),(9,.bool false),(6,nI x22),(7,nB w25),(12,nI x22),(11,nI ((L1.length:Int))),(10,.slice (some ⟨g43,0,none⟩) L1.length c2),(5,.slice p30 L20.length c31),(2,nB w)]) (w':=w216) (by kernel_rfl) ?_
     intro a224 hF223; clear hF220
     refine ev_one (.agg #[nI (i0.id),nI (i0.status),nI (i0.pc),nI (i0.a),nI (i0.b),nI (i0.c),nI (i0.d),nI (i0.e),nI (i0.f),nI (i0.sudogs)]) w216 hF223 (by kernel_rfl) rfl (by kernel_rfl) (run_loadV rfl rfl (run_loadA (cs:=[nI (i0.id),nI (i0.status),nI (i0.pc),nI (i0.a),nI (i0.b),nI (i0.c),nI (i0.d),nI (i0.e),nI (i0.f),nI (i0.sudogs)]) rfl rfl (by kernel_rfl) (blk_cells hS222 2 rfl rfl))) (l':=[(27,.agg #[nI (i0.id),nI (i0.status),nI (i0.pc),nI (i0.a),nI (i0.b),nI (i0.c),nI (i0.d),nI (i0.e),nI (i0.f),nI (i0.sudogs)]),(26,.bool true),(25,.bool true),(24,.bool false),(9,.bool false),(6,nI x22),(7,nB w25),(12,nI x22),(11,nI ((L1.length:Int))),(10,.slice (some ⟨g43,0,none⟩) L1.length c2),(5,.slice p30 L20.length c31),(2,nB w)]) (by kernel_rfl) ?_
     intro a226 hF225; clear hF223
     refine ev_runs 1 hF225 (l':=[(28,nP (w25.heap.size) 1),(27,.agg #[nI (i0.id),nI (i0.status),nI (i0.pc),nI (i0.a),nI (i0.b),nI (i0.c),nI (i0.d),nI (i0.e),nI (i0.f),nI (i0.sudogs)]),(26,.bool true),(25,.bool true),(24,.bool false),(9,.bool false),(6,nI x22),(7,nB w25),(12,nI x22),(11,nI ((L1.length:Int))),(10,.slice (some ⟨g43,0,none⟩) L1.length c2),(5,.slice p30 L20.length c31),(2,nB w)]) (w':=w216) (by kernel_rfl) ?_
     intro a228 hF227; clear hF225
     refine ev_one (nI ((atX kCs L1 x22).ch)) w216 hF227 (by kernel_rfl) rfl (by kernel_rfl) (run_loadV rfl rfl (run_loadS rfl rfl (hS222.cell 0 rfl 1 rfl))) (l':=[(29,nI ((atX kCs L1 x22).ch)),(28,nP (w25.heap.size) 1),(27,.agg #[nI (i0.id),nI (i0.status),nI (i0.pc),nI (i0.a),nI (i0.b),nI (i0.c),nI (i0.d),nI (i0.e),nI (i0.f),nI (i0.sudogs)]),(26,.bool true),(25,.bool true),(24,.bool false),(9,.bool false),(6,nI x22),(7,nB w25),(12,nI x22),(11,nI ((L1.length:Int))),(10,.slice (some ⟨g43,0,none⟩) L1.length c2),(5,.slice p30 L20.length c31),(2,nB w)]) (by kernel_rfl) ?_
     intro a230 hF229; clear hF227
     refine ev_call 22 #[.agg #[nI (i0.id),nI (i0.status),nI (i0.pc),nI (i0.a),nI (i0.b),nI (i0.c),nI (i0.d),nI (i0.e),nI (i0.f),nI (i0.sudogs)],nI ((atX kCs L1 x22).ch)] hF229 rfl rfl (by kernel_rfl) rfl (by kernel_rfl) (fun w=>by kernel_rfl) ?_
     obtain ⟨x231,hx232,hm233⟩:=bind1E hm211; clear hm211
     refine (choose_word.ok hS222 hx232).mono ?_
     rintro _ w234 ⟨rfl,hS236⟩ a235 hF237; clear hF229 hS222
     refine ev_call 21 #[nI x231] hF237 rfl rfl (by kernel_rfl) rfl (by kernel_rfl) (fun w=>by kernel_rfl) ?_
     refine (p_vIsPtr hS236).mono ?_
     rintro _ w238 ⟨rfl,hS240⟩ a239 hF241; clear hF237 hS236
     refine ev_runK 1 hF241 [2,5,6,10,11,12,32] (l':=[(32,.bool (vIsPtr x231)),(6,nI x22),(12,nI x22),(11,nI ((L1.length:Int))),(10,.slice (some ⟨g43,0,none⟩) L1.length c2),(5,.slice p30 L20.length c31),(2,nB w)]) (w':=w238) (by kernel_rfl) ?_
     intro a243 hF242; clear hF241
     refine wpList_nil ?_
     have hS244:=hS240.drop
     clear hS240
     refine thenN ?_
     refine joinQ (fun aI wI=>∃ (v246:Value) (L245:List Int),Fr 39 aI [(12,nI x22),(11,nI ((L1.length:Int))),(10,.slice (some ⟨g43,0,none⟩) L1.length c2),(5,v246),(2,nB w)]∧St w0 F0 (RowP (v246) L245::BlkP (w.heap.size) 29 #[nI (i0.id),nI (i0.status),nI (i0.pc),nI (i0.a),nI (i0.b),nI (i0.c),nI (i0.d),nI (i0.e),nI (i0.f),nI (i0.sudogs)]::RowY kCs (.slice (some ⟨g43,0,none⟩) L1.length c2) L1 o1::ps) wI∧choose_Waits.j10 x22 (choose_Waits.l7 i0 L1 k k23) L245=some r0) ?_ ?_
     rotate_left
     · rintro a248 w249 ⟨v246,L245,hF250,hS251,hm252⟩
       clear hF242 hS244 hm233
       unfold choose_Waits.j10 at hm252
       obtain ⟨hl257,p254,c255,rfl,hp256⟩:=St.shape hS251 0 rfl
       refine blockN ?_
       refine thenN (wp_region_lit ?_)
       refine ev_runK 2 hF250 [2,5,10,11,12] (l':=[(12,nI (IntKind.i64.wrap (x22+1))),(11,nI ((L1.length:Int))),(10,.slice (some ⟨g43,0,none⟩) L1.length c2),(5,.slice p254 L245.length c255),(2,nB w)]) (w':=w249) (by kernel_rfl) ?_
       intro a259 hF258; clear hF250
       refine wpList_nil ?_
       exact thenN ⟨k23,Nat.lt_succ_self _,.slice p254 L245.length c255,L245,IntKind.i64.wrap (x22+1),hF258,hS251,hm252⟩
     · skip
       cases hc260:(vIsPtr x231)
       case true =>
        rw [hc260] at hF242
        have hm261:=ifYes hc260 hm233; clear hm233
        refine ev_condT hF242 rfl rfl ?_
        refine wp_region_lit ?_
        refine ev_runs 3 hF242 (l':=[(35,.slice (some ⟨w238.heap.size,0,none⟩) 1 1),(34,nI x22),(33,.slice p30 L20.length c31),(32,.bool true),(6,nI x22),(12,nI x22),(11,nI ((L1.length:Int))),(10,.slice (some ⟨g43,0,none⟩) L1.length c2),(5,.slice p30 L20.length c31),(2,nB w)]) (w':=w238.alloc (.cells #[nI x22] 3)) (by kernel_rfl) ?_
        intro a263 hF262; clear hF242
        obtain ⟨L264,hx265,hm266⟩:=bind1E hm261; clear hm261
        refine ev_push 36 (.tmp 33) (.tmp 35) hF262 rfl rfl rfl rfl rfl rfl rfl rfl hS244 hx265 ?_
        intro g267 c268 w269 a270 hS271 hF272; clear hF262 hS244
        refine ev_runK 1 hF272 [2,5,10,11,12] (l':=[(5,nS g267 L264 c268),(12,nI x22),(11,nI ((L1.length:Int))),(10,.slice (some ⟨g43,0,none⟩) L1.length c2),(2,nB w)]) (w':=w269) (by kernel_rfl) ?_
        intro a274 hF273; clear hF272
        refine wpList_nil ?_
        have hF275:Fr 39 a274 [(12,nI x22),(11,nI ((L1.length:Int))),(10,.slice (some ⟨g43,0,none⟩) L1.length c2),(5,nS g267 L264 c268),(2,nB w)]:=Fr.re hF273 (by kernel_rfl)
        clear hF273
        exact thenN ⟨nS g267 L264 c268,L264,hF275,hS271,hm266⟩
       rw [hc260] at hF242
       have hm276:=ifNot hc260 hm233; clear hm233
       refine ev_condF hF242 rfl rfl ?_
       refine wp_skip ?_
       have hF277:=hF242.keep [2,5,10,11,12]
       clear hF242
       exact thenN ⟨.slice p30 L20.length c31,L20,hF277,hS244,hm276⟩
    | inr q210 =>
     have hm278:=sumR hm208; clear hm208
     refine ev_runs 5 hF69 (l':=[(8,nB w66),(23,.bool true),(22,.agg #[]),(17,.tuple #[.agg #[],.bool true]),(21,.tuple #[.agg #[],.bool true]),(20,.iface 57 (.agg #[])),(19,.agg #[nI ((atX kCs L1 x22).kind),nI ((atX kCs L1 x22).ch),nI ((atX kCs L1 x22).reg),nI ((atX kCs L1 x22).to)]),(18,.agg #[nI (i0.id),nI (i0.status),nI (i0.pc),nI (i0.a),nI (i0.b),nI (i0.c),nI (i0.d),nI (i0.e),nI (i0.f),nI (i0.sudogs)]),(6,nI x22),(7,nB w25),(12,nI x22),(11,nI ((L1.length:Int))),(10,.slice (some ⟨g43,0,none⟩) L1.length c2),(5,.slice p30 L20.length c31),(2,nB w)]) (w':=w66.alloc (.cells #[] 57)) (by kernel_rfl) ?_
     intro a280 hF279; clear hF69
     have hS282:St w0 F0 (BlkP (w66.heap.size) 57 #[]::BlkP (w25.heap.size) 33 #[nI ((atX kCs L1 x22).kind),nI ((atX kCs L1 x22).ch),nI ((atX kCs L1 x22).reg),nI ((atX kCs L1 x22).to)]::RowP (.slice p30 L20.length c31) L20::BlkP (w.heap.size) 29 #[nI (i0.id),nI (i0.status),nI (i0.pc),nI (i0.a),nI (i0.b),nI (i0.c),nI (i0.d),nI (i0.e),nI (i0.f),nI (i0.sudogs)]::RowY kCs (.slice (some ⟨g43,0,none⟩) L1.length c2) L1 o1::ps) (w66.alloc (.cells #[] 57)):=St.new hS68 #[] 57
     clear hS68
     refine ev_store (.agg #[]) #[] hF279 (by kernel_rfl) rfl rfl rfl rfl (by kernel_rfl) hS282 (by kernel_rfl) (by kernel_rfl) (by kernel_rfl) (l':=[(8,nB w66),(23,.bool true),(22,.agg #[]),(17,.tuple #[.agg #[],.bool true]),(21,.tuple #[.agg #[],.bool true]),(20,.iface 57 (.agg #[])),(19,.agg #[nI ((atX kCs L1 x22).kind),nI ((atX kCs L1 x22).ch),nI ((atX kCs L1 x22).reg),nI ((atX kCs L1 x22).to)]),(18,.agg #[nI (i0.id),nI (i0.status),nI (i0.pc),nI (i0.a),nI (i0.b),nI (i0.c),nI (i0.d),nI (i0.e),nI (i0.f),nI (i0.sudogs)]),(6,nI x22),(7,nB w25),(12,nI x22),(11,nI ((L1.length:Int))),(10,.slice (some ⟨g43,0,none⟩) L1.length c2),(5,.slice p30 L20.length c31),(2,nB w)]) (by kernel_rfl) ?_
     intro w283 a284 hS285 hF286; clear hF279 hS282
     refine ev_runK 1 hF286 [2,5,6,7,9,10,11,12] (l':=[(9,.bool true),(6,nI x22),(7,nB w25),(12,nI x22),(11,nI ((L1.length:Int))),(10,.slice (some ⟨g43,0,none⟩) L1.length c2),(5,.slice p30 L20.length c31),(2,nB w)]) (w':=w283) (by kernel_rfl) ?_
     intro a288 hF287; clear hF286
     refine wpList_nil ?_
     have hS289:=hS285.drop
     clear hS285
     refine thenN (wp_seq (wp_region_lit ?_))
     refine ev_runK 9 hF287 [2,5,6,10,11,12,32] (l':=[(32,.bool false),(6,nI x22),(12,nI x22),(11,nI ((L1.length:Int))),(10,.slice (some ⟨g43,0,none⟩) L1.length c2),(5,.slice p30 L20.length c31),(2,nB w)]) (w':=w283) (by kernel_rfl) ?_
     intro a291 hF290; clear hF287
     refine wpList_nil ?_
     have hS292:=hS289.drop
     clear hS289
     refine thenN ?_
     refine ev_condF hF290 rfl rfl ?_
     refine wp_skip ?_
     have hF293:=hF290.keep [2,5,10,11,12]
     clear hF290
     refine blockN ?_
     refine thenN (wp_region_lit ?_)
     refine ev_runK 2 hF293 [2,5,10,11,12] (l':=[(12,nI (IntKind.i64.wrap (x22+1))),(11,nI ((L1.length:Int))),(10,.slice (some ⟨g43,0,none⟩) L1.length c2),(5,.slice p30 L20.length c31),(2,nB w)]) (w':=w283) (by kernel_rfl) ?_
     intro a295 hF294; clear hF293
     refine wpList_nil ?_
     exact thenN ⟨k23,Nat.lt_succ_self _,.slice p30 L20.length c31,L20,IntKind.i64.wrap (x22+1),hF294,hS292,hm278⟩
 rw [hc36] at hF34
 have hm296:=ifNot hc36 hm29; clear hm29
 refine ev_condF hF34 rfl rfl ?_
 refine wp_exit ?_
 refine thenE ?_
 refine thenE ?_
 refine blockE ?_
 refine thenN (wp_seq (wp_region_lit ?_))
 refine ev_runK 2 hF34 [4] (l':=[(4,.slice p30 L20.length c31)]) (w':=w25) (by kernel_rfl) ?_
 intro a298 hF297; clear hF34
 refine wpList_nil ?_
 have hS299:=hS27.pick1.drop
 clear hS27
 refine thenN ?_
 refine wp_ret ?_
 have hS300:=hS299.pick1
 clear hS299
 obtain rfl:=Option.some.inj hm296
 refine ev_ret hF297 [4] (.slice p30 L20.length c31) rfl rfl rfl ?_
 exact ⟨_,rfl,hS300⟩
end Go.Proofs.YtjdlnmbfomojdaaGreat
