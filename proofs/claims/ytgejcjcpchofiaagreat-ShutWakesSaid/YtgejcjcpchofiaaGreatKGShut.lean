/- GShut -/
import Derived.Test.YtgejcjcpchofiaaGreatKGMouth
import Derived.Test.YtgejcjcpchofiaaGreatKGView
import Derived.Deep.LoopGhost
import Derived.KernelRfl
/- The walks of GShut, printed by gen/walk.py. -/
namespace Go.Proofs.YtgejcjcpchofiaaGreat
open Go.RowKit
set_option linter.unusedVariables false

def shut_Try.j4 (rec200 : List Int → HSt → Option (List Int × Int × HSt)) (s242 : HSt) (L253 : List Int) : Option (List Int × Int × HSt) := rec200 L253 s242
def shut_Try.l3b (k : Nat) (q48 : Int) (rec200 : List Int → HSt → Option (List Int × Int × HSt)) (L195 : List Int) (s197 : HSt) : Option (List Int × Int × HSt) := bind3 (list_Pop.m k s197 q48 (false)) fun x212 y213 s214 => (if (!(y213)) then some (L195, 1, s214) else bind3 (wake_Wake.m k s214 x212 (wrap64 (2 * 0))) fun x240 x241 s242 => (if (x241 == 0) then bind1 (pushM L195 x240) fun L272 => shut_Try.j4 rec200 s242 L272 else shut_Try.j4 rec200 s242 L195))
def shut_Try.l3 (k : Nat) (q48 : Int) : Nat → List Int → HSt → Option (List Int × Int × HSt)
  | 0 => fun _ _ => none
  | kI + 1 => shut_Try.l3b k q48 (shut_Try.l3 k q48 kI)
def shut_Try.m (k : Nat) (s0 : HSt) (i1 : Int) : Option (List Int × Int × HSt) := bind2 (mouth_Of.m k s0 i1) fun o8 s9 => optE o8 (some ([], 6, s9)) fun q45 => sumE q45 (fun q47 => some ([], 5, s9)) fun q48 => bind2 (pChan q48 s9) fun q99 x100 => (if (q99.closed != 0) then some ([], 4, s9) else bind2 (list_All.m k s9 q48 (true)) fun L138 s139 => (if (decide ((L138.length : Int) > 0)) then some ([], 3, s139) else bind2 (pPutChan q48 (⟨q99.cap, 1, q99.count, q99.start, q99.buf, q99.th, q99.tt, q99.sh, q99.st⟩ : Ch) s139) fun x181 s182 => shut_Try.l3 k q48 k [] s182))
set_option maxRecDepth 100000 in
set_option maxHeartbeats 1500000 in
theorem shut_Try.ok {w0 w : World} {F0 : List Nat} {ps : List Piece} {k : Nat} {b0 ab0 : Nat} {s0 : HSt} {i1 : Int} {r0 : List Int} {r1 : Int} {t0 : HSt} (hS : St w0 F0 (HeapP b0 ab0 s0 :: ps) w) (hm : shut_Try.m k s0 i1 = some (r0, r1, t0)) :
    Calls Tryz.prog 23 #[nP b0 0, nI i1] w fun e w' => ∃ vr0, e = .returned (.tuple #[vr0, .int .i64 r1]) ∧ St w0 F0 (HeapP b0 ab0 t0 :: RowP vr0 r0 :: ps) w' := by
 refine ev_enterL 79 [nP b0 0, nI i1] Tryz.func23 rfl rfl (by simp) ?_
 intro a hF
 have hF0 : Fr 79 a [(0, nP b0 0), (1, nI i1)] := hF; clear hF
 unfold shut_Try.m at hm
 refine wp_seq (wp_region_lit ?_)
 have hS2 : St w0 F0 (RowP (.slice none 0 0) [] :: HeapP b0 ab0 s0 :: ps) w := St.nil hS
 refine ev_runK 2 hF0 [0, 1] (l' := [(0, nP b0 0), (1, nI i1)]) (w' := w) (by kernel_rfl) ?_
 intro a4 hF3; clear hF0
 refine wpList_nil ?_
 have hS5 := hS2.drop
 clear hS2
 refine thenN (wp_seq (wp_region_lit ?_))
 refine ev_runs 2 hF3 (l' := [(20, nI i1), (19, nP b0 0), (0, nP b0 0), (1, nI i1)]) (w' := w) (by kernel_rfl) ?_
 intro a7 hF6; clear hF3
 refine ev_call 64 #[nP b0 0, nI i1] hF6 rfl rfl (by kernel_rfl) rfl (by kernel_rfl) (fun w => by kernel_rfl) ?_
 obtain ⟨o8, s9, hx10, hm11⟩ := bind2E hm; clear hm
 refine (mouth_Of.ok hS5 hx10).mono ?_
 rintro _ w12 ⟨rfl, hS14⟩ a13 hF15; clear hF6 hS5
 cases o8 with
 | none =>
  have hm16 := optN hm11; clear hm11
  refine ev_runK 1 hF15 [0, 6] (l' := [(6, .nilIface), (0, nP b0 0)]) (w' := w12) (by kernel_rfl) ?_
  intro a18 hF17; clear hF15
  refine wpList_nil (thenN (wp_seq (wp_seq (wp_region_lit ?_))))
  refine ev_runs 6 hF17 (l' := [(7, nB w12), (26, .bool false), (25, .agg #[]), (22, .tuple #[.agg #[], .bool false]), (24, .tuple #[.agg #[], .bool false]), (23, .nilIface), (6, .nilIface), (0, nP b0 0)]) (w' := w12.alloc (.cells #[] 104)) (by kernel_rfl) ?_
  intro a20 hF19; clear hF17
  have hS22 : St w0 F0 (BlkP (w12.heap.size) 104 #[] :: HeapP b0 ab0 s9 :: ps) (w12.alloc (.cells #[] 104)) := St.new hS14 #[] 104
  clear hS14
  refine ev_store (.agg #[]) #[] hF19 (by kernel_rfl) rfl rfl rfl rfl (by kernel_rfl) hS22 (by kernel_rfl) (by kernel_rfl) (by kernel_rfl) (l' := [(7, nB w12), (26, .bool false), (25, .agg #[]), (22, .tuple #[.agg #[], .bool false]), (24, .tuple #[.agg #[], .bool false]), (23, .nilIface), (6, .nilIface), (0, nP b0 0)]) (by kernel_rfl) ?_
  intro w23 a24 hS25 hF26; clear hF19 hS22
  refine ev_runK 1 hF26 [0, 6, 8] (l' := [(8, .bool false), (6, .nilIface), (0, nP b0 0)]) (w' := w23) (by kernel_rfl) ?_
  intro a28 hF27; clear hF26
  refine wpList_nil ?_
  have hS29 := hS25.drop
  clear hS25
  refine thenN (wp_seq (wp_region_lit ?_))
  refine ev_runK 1 hF27 [0, 6, 27] (l' := [(27, .bool false), (6, .nilIface), (0, nP b0 0)]) (w' := w23) (by kernel_rfl) ?_
  intro a31 hF30; clear hF27
  refine wpList_nil (thenN ?_)
  refine ev_condF hF30 rfl rfl ?_
  refine wp_skip ?_
  have hF32 := hF30.keep [0, 6]
  clear hF30
  refine thenN (wp_seq (wp_region_lit ?_))
  refine ev_runK 7 hF32 [0, 9, 10] (l' := [(10, .bool false), (9, nI 0), (0, nP b0 0)]) (w' := w23) (by kernel_rfl) ?_
  intro a34 hF33; clear hF32
  refine wpList_nil (thenN (wp_seq (wp_seq (wp_region_lit ?_))))
  refine ev_runK 2 hF33 [0, 9, 34] (l' := [(34, .bool true), (9, nI 0), (0, nP b0 0)]) (w' := w23) (by kernel_rfl) ?_
  intro a36 hF35; clear hF33
  refine wpList_nil (thenN ?_)
  refine ev_condT hF35 rfl rfl ?_
  refine wp_seq (wp_region_lit ?_)
  have hS38 : St w0 F0 (RowP (.slice none 0 0) [] :: HeapP b0 ab0 s9 :: ps) w23 := St.nil hS29
  clear hS29
  refine ev_runK 2 hF35 [4, 5] (l' := [(5, nI 6), (4, .slice none 0 0)]) (w' := w23) (by kernel_rfl) ?_
  intro a40 hF39; clear hF35
  refine wpList_nil (thenN ?_)
  refine wp_ret ?_
  refine thenR ?_
  have hS41 := hS38.pick1
  clear hS38
  simp only [Option.some.injEq, Prod.mk.injEq] at hm16
  obtain ⟨rfl, rfl, rfl⟩ := hm16
  refine ev_ret hF39 [4, 5] (.tuple #[.slice none 0 0, nI 6]) rfl rfl rfl ?_
  exact ⟨_, rfl, hS41⟩
 | some q45 =>
  have hm46 := optS hm11; clear hm11
  cases q45 with
  | inl q47 =>
   have hm49 := sumL hm46; clear hm46
   refine ev_runK 1 hF15 [0, 6] (l' := [(6, .iface 104 (.agg #[])), (0, nP b0 0)]) (w' := w12) (by kernel_rfl) ?_
   intro a51 hF50; clear hF15
   refine wpList_nil (thenN (wp_seq (wp_seq (wp_region_lit ?_))))
   refine ev_runs 6 hF50 (l' := [(7, nB w12), (26, .bool true), (25, .agg #[]), (22, .tuple #[.agg #[], .bool true]), (24, .tuple #[.agg #[], .bool true]), (23, .iface 104 (.agg #[])), (6, .iface 104 (.agg #[])), (0, nP b0 0)]) (w' := w12.alloc (.cells #[] 104)) (by kernel_rfl) ?_
   intro a53 hF52; clear hF50
   have hS55 : St w0 F0 (BlkP (w12.heap.size) 104 #[] :: HeapP b0 ab0 s9 :: ps) (w12.alloc (.cells #[] 104)) := St.new hS14 #[] 104
   clear hS14
   refine ev_store (.agg #[]) #[] hF52 (by kernel_rfl) rfl rfl rfl rfl (by kernel_rfl) hS55 (by kernel_rfl) (by kernel_rfl) (by kernel_rfl) (l' := [(7, nB w12), (26, .bool true), (25, .agg #[]), (22, .tuple #[.agg #[], .bool true]), (24, .tuple #[.agg #[], .bool true]), (23, .iface 104 (.agg #[])), (6, .iface 104 (.agg #[])), (0, nP b0 0)]) (by kernel_rfl) ?_
   intro w56 a57 hS58 hF59; clear hF52 hS55
   refine ev_runK 1 hF59 [0, 6, 8] (l' := [(8, .bool true), (6, .iface 104 (.agg #[])), (0, nP b0 0)]) (w' := w56) (by kernel_rfl) ?_
   intro a61 hF60; clear hF59
   refine wpList_nil ?_
   have hS62 := hS58.drop
   clear hS58
   refine thenN (wp_seq (wp_region_lit ?_))
   refine ev_runK 1 hF60 [0, 6, 27] (l' := [(27, .bool true), (6, .iface 104 (.agg #[])), (0, nP b0 0)]) (w' := w56) (by kernel_rfl) ?_
   intro a64 hF63; clear hF60
   refine wpList_nil (thenN ?_)
   refine ev_condT hF63 rfl rfl ?_
   refine wp_seq (wp_region_lit ?_)
   have hS66 : St w0 F0 (RowP (.slice none 0 0) [] :: HeapP b0 ab0 s9 :: ps) w56 := St.nil hS62
   clear hS62
   refine ev_runK 2 hF63 [4, 5] (l' := [(5, nI 5), (4, .slice none 0 0)]) (w' := w56) (by kernel_rfl) ?_
   intro a68 hF67; clear hF63
   refine wpList_nil (thenN ?_)
   refine wp_ret ?_
   refine thenR ?_
   have hS69 := hS66.pick1
   clear hS66
   simp only [Option.some.injEq, Prod.mk.injEq] at hm49
   obtain ⟨rfl, rfl, rfl⟩ := hm49
   refine ev_ret hF67 [4, 5] (.tuple #[.slice none 0 0, nI 5]) rfl rfl rfl ?_
   exact ⟨_, rfl, hS69⟩
  | inr q48 =>
   have hm73 := sumR hm46; clear hm46
   refine ev_runK 1 hF15 [0, 6] (l' := [(6, .iface 106 (nI q48)), (0, nP b0 0)]) (w' := w12) (by kernel_rfl) ?_
   intro a75 hF74; clear hF15
   refine wpList_nil (thenN (wp_seq (wp_seq (wp_region_lit ?_))))
   refine ev_runs 6 hF74 (l' := [(7, nB w12), (26, .bool false), (25, .agg #[]), (22, .tuple #[.agg #[], .bool false]), (24, .tuple #[.agg #[], .bool false]), (23, .iface 106 (nI q48)), (6, .iface 106 (nI q48)), (0, nP b0 0)]) (w' := w12.alloc (.cells #[] 104)) (by kernel_rfl) ?_
   intro a77 hF76; clear hF74
   have hS79 : St w0 F0 (BlkP (w12.heap.size) 104 #[] :: HeapP b0 ab0 s9 :: ps) (w12.alloc (.cells #[] 104)) := St.new hS14 #[] 104
   clear hS14
   refine ev_store (.agg #[]) #[] hF76 (by kernel_rfl) rfl rfl rfl rfl (by kernel_rfl) hS79 (by kernel_rfl) (by kernel_rfl) (by kernel_rfl) (l' := [(7, nB w12), (26, .bool false), (25, .agg #[]), (22, .tuple #[.agg #[], .bool false]), (24, .tuple #[.agg #[], .bool false]), (23, .iface 106 (nI q48)), (6, .iface 106 (nI q48)), (0, nP b0 0)]) (by kernel_rfl) ?_
   intro w80 a81 hS82 hF83; clear hF76 hS79
   refine ev_runK 1 hF83 [0, 6, 8] (l' := [(8, .bool false), (6, .iface 106 (nI q48)), (0, nP b0 0)]) (w' := w80) (by kernel_rfl) ?_
   intro a85 hF84; clear hF83
   refine wpList_nil ?_
   have hS86 := hS82.drop
   clear hS82
   refine thenN (wp_seq (wp_region_lit ?_))
   refine ev_runK 1 hF84 [0, 6, 27] (l' := [(27, .bool false), (6, .iface 106 (nI q48)), (0, nP b0 0)]) (w' := w80) (by kernel_rfl) ?_
   intro a88 hF87; clear hF84
   refine wpList_nil (thenN ?_)
   refine ev_condF hF87 rfl rfl ?_
   refine wp_skip ?_
   have hF89 := hF87.keep [0, 6]
   clear hF87
   refine thenN (wp_seq (wp_region_lit ?_))
   refine ev_runK 7 hF89 [0, 9, 10] (l' := [(10, .bool true), (9, nI q48), (0, nP b0 0)]) (w' := w80) (by kernel_rfl) ?_
   intro a91 hF90; clear hF89
   refine wpList_nil (thenN (wp_seq (wp_seq (wp_region_lit ?_))))
   refine ev_runK 2 hF90 [0, 9, 34] (l' := [(34, .bool false), (9, nI q48), (0, nP b0 0)]) (w' := w80) (by kernel_rfl) ?_
   intro a93 hF92; clear hF90
   refine wpList_nil (thenN ?_)
   refine ev_condF hF92 rfl rfl ?_
   refine wp_skip ?_
   have hF94 := hF92.keep [0, 9]
   clear hF92
   refine thenN (wp_seq (wp_region_lit ?_))
   refine ev_runK 2 hF94 [0, 11] (l' := [(11, nI q48), (0, nP b0 0)]) (w' := w80) (by kernel_rfl) ?_
   intro a96 hF95; clear hF94
   refine wpList_nil (thenN (wp_seq (wp_region_lit ?_)))
   refine ev_runs 2 hF95 (l' := [(38, nI q48), (37, nP b0 0), (11, nI q48), (0, nP b0 0)]) (w' := w80) (by kernel_rfl) ?_
   intro a98 hF97; clear hF95
   refine ev_call 30 #[nP b0 0, nI q48] hF97 rfl rfl (by kernel_rfl) rfl (by kernel_rfl) (fun w => by kernel_rfl) ?_
   obtain ⟨q99, x100, hx101, hm102⟩ := bind2E hm73; clear hm73
   refine (p_Chan hS86 hx101).mono ?_
   rintro _ w103 ⟨rfl, hS105⟩ a104 hF106; clear hF97 hS86
   refine ev_runs 4 hF106 (l' := [(12, nB w103), (41, nI x100), (40, .agg #[nI (q99.cap), nI (q99.closed), nI (q99.count), nI (q99.start), nI (q99.buf), nI (q99.th), nI (q99.tt), nI (q99.sh), nI (q99.st)]), (36, .tuple #[.agg #[nI (q99.cap), nI (q99.closed), nI (q99.count), nI (q99.start), nI (q99.buf), nI (q99.th), nI (q99.tt), nI (q99.sh), nI (q99.st)], nI x100]), (39, .tuple #[.agg #[nI (q99.cap), nI (q99.closed), nI (q99.count), nI (q99.start), nI (q99.buf), nI (q99.th), nI (q99.tt), nI (q99.sh), nI (q99.st)], nI x100]), (38, nI q48), (37, nP b0 0), (11, nI q48), (0, nP b0 0)]) (w' := w103.alloc (.cells #[nI 0, nI 0, nI 0, nI 0, nI 0, nI 0, nI 0, nI 0, nI 0] 57)) (by kernel_rfl) ?_
   intro a108 hF107; clear hF106
   have hS110 : St w0 F0 (BlkP (w103.heap.size) 57 #[nI 0, nI 0, nI 0, nI 0, nI 0, nI 0, nI 0, nI 0, nI 0] :: HeapP b0 ab0 s9 :: ps) (w103.alloc (.cells #[nI 0, nI 0, nI 0, nI 0, nI 0, nI 0, nI 0, nI 0, nI 0] 57)) := St.new hS105 #[nI 0, nI 0, nI 0, nI 0, nI 0, nI 0, nI 0, nI 0, nI 0] 57
   clear hS105
   refine ev_store (.agg #[nI (q99.cap), nI (q99.closed), nI (q99.count), nI (q99.start), nI (q99.buf), nI (q99.th), nI (q99.tt), nI (q99.sh), nI (q99.st)]) #[nI (q99.cap), nI (q99.closed), nI (q99.count), nI (q99.start), nI (q99.buf), nI (q99.th), nI (q99.tt), nI (q99.sh), nI (q99.st)] hF107 (by kernel_rfl) rfl rfl rfl rfl (by kernel_rfl) hS110 (by kernel_rfl) (by kernel_rfl) (by kernel_rfl) (l' := [(12, nB w103), (41, nI x100), (40, .agg #[nI (q99.cap), nI (q99.closed), nI (q99.count), nI (q99.start), nI (q99.buf), nI (q99.th), nI (q99.tt), nI (q99.sh), nI (q99.st)]), (36, .tuple #[.agg #[nI (q99.cap), nI (q99.closed), nI (q99.count), nI (q99.start), nI (q99.buf), nI (q99.th), nI (q99.tt), nI (q99.sh), nI (q99.st)], nI x100]), (39, .tuple #[.agg #[nI (q99.cap), nI (q99.closed), nI (q99.count), nI (q99.start), nI (q99.buf), nI (q99.th), nI (q99.tt), nI (q99.sh), nI (q99.st)], nI x100]), (38, nI q48), (37, nP b0 0), (11, nI q48), (0, nP b0 0)]) (by kernel_rfl) ?_
   intro w111 a112 hS113 hF114; clear hF107 hS110
   refine ev_runK 1 hF114 [0, 11, 12] (l' := [(12, nB w103), (11, nI q48), (0, nP b0 0)]) (w' := w111) (by kernel_rfl) ?_
   intro a116 hF115; clear hF114
   refine wpList_nil (thenN (wp_seq ?_))
   refine wp_block ?_
   refine wp_seq (wp_region_lit ?_)
   refine ev_runs 1 hF115 (l' := [(43, nP (w103.heap.size) 1), (12, nB w103), (11, nI q48), (0, nP b0 0)]) (w' := w111) (by kernel_rfl) ?_
   intro a118 hF117; clear hF115
   refine ev_one (nI (q99.closed)) w111 hF117 (by kernel_rfl) rfl (by kernel_rfl) (run_loadV rfl rfl (run_loadS rfl rfl (hS113.cell 0 rfl 1 rfl))) (l' := [(44, nI (q99.closed)), (43, nP (w103.heap.size) 1), (12, nB w103), (11, nI q48), (0, nP b0 0)]) (by kernel_rfl) ?_
   intro a120 hF119; clear hF117
   refine ev_runK 2 hF119 [0, 11, 12, 42] (l' := [(42, .bool (q99.closed != 0)), (12, nB w103), (11, nI q48), (0, nP b0 0)]) (w' := w111) (by kernel_rfl) ?_
   intro a122 hF121; clear hF119
   refine wpList_nil (thenN ?_)
   cases hc123 : (q99.closed != 0)
   case true =>
    rw [hc123] at hF121
    have hm124 := ifYes hc123 hm102; clear hm102
    refine ev_condT hF121 rfl rfl ?_
    refine wp_seq (wp_region_lit ?_)
    have hS126 : St w0 F0 (RowP (.slice none 0 0) [] :: BlkP (w103.heap.size) 57 #[nI (q99.cap), nI (q99.closed), nI (q99.count), nI (q99.start), nI (q99.buf), nI (q99.th), nI (q99.tt), nI (q99.sh), nI (q99.st)] :: HeapP b0 ab0 s9 :: ps) w111 := St.nil hS113
    clear hS113
    refine ev_runK 2 hF121 [4, 5] (l' := [(5, nI 4), (4, .slice none 0 0)]) (w' := w111) (by kernel_rfl) ?_
    intro a128 hF127; clear hF121
    refine wpList_nil ?_
    have hS129 := hS126.pick1.drop
    clear hS126
    refine thenN ?_
    refine wp_ret ?_
    refine blockR ?_
    refine thenR ?_
    have hS130 := hS129.pick1
    clear hS129
    simp only [Option.some.injEq, Prod.mk.injEq] at hm124
    obtain ⟨rfl, rfl, rfl⟩ := hm124
    refine ev_ret hF127 [4, 5] (.tuple #[.slice none 0 0, nI 4]) rfl rfl rfl ?_
    exact ⟨_, rfl, hS130⟩
   rw [hc123] at hF121
   have hm134 := ifNot hc123 hm102; clear hm102
   refine ev_condF hF121 rfl rfl ?_
   refine wp_seq (wp_region_lit ?_)
   refine ev_runs 2 hF121 (l' := [(48, nI q48), (47, nP b0 0), (42, .bool false), (12, nB w103), (11, nI q48), (0, nP b0 0)]) (w' := w111) (by kernel_rfl) ?_
   intro a136 hF135; clear hF121
   have hS137 := hS113.pick1
   clear hS113
   refine ev_call 35 #[nP b0 0, nI q48, .bool true] hF135 rfl rfl (by kernel_rfl) rfl (by kernel_rfl) (fun w => by kernel_rfl) ?_
   obtain ⟨L138, s139, hx140, hm141⟩ := bind2E hm134; clear hm134
   refine (list_All.ok hS137 hx140).mono ?_
   rintro _ w142 ⟨z146, rfl, hS144⟩ a143 hF145; clear hF135 hS137
   obtain ⟨hl151, p148, c149, rfl, hp150⟩ := St.shape hS144 1 rfl
   refine ev_runK 3 hF145 [0, 11, 12, 46] (l' := [(46, .bool (decide ((L138.length : Int) > 0))), (12, nB w103), (11, nI q48), (0, nP b0 0)]) (w' := w142) (by kernel_rfl) ?_
   intro a153 hF152; clear hF145
   refine wpList_nil ?_
   have hS154 := hS144.pick1.drop
   clear hS144
   refine thenN ?_
   cases hc155 : (decide ((L138.length : Int) > 0))
   case true =>
    rw [hc155] at hF152
    have hm156 := ifYes hc155 hm141; clear hm141
    refine ev_condT hF152 rfl rfl ?_
    refine wp_seq (wp_region_lit ?_)
    have hS158 : St w0 F0 (RowP (.slice none 0 0) [] :: HeapP b0 ab0 s139 :: BlkP (w103.heap.size) 57 #[nI (q99.cap), nI (q99.closed), nI (q99.count), nI (q99.start), nI (q99.buf), nI (q99.th), nI (q99.tt), nI (q99.sh), nI (q99.st)] :: ps) w142 := St.nil hS154
    clear hS154
    refine ev_runK 2 hF152 [4, 5] (l' := [(5, nI 3), (4, .slice none 0 0)]) (w' := w142) (by kernel_rfl) ?_
    intro a160 hF159; clear hF152
    refine wpList_nil ?_
    have hS161 := hS158.pick2.drop
    clear hS158
    refine thenN ?_
    refine wp_ret ?_
    refine blockR ?_
    refine thenR ?_
    have hS162 := hS161.pick1
    clear hS161
    simp only [Option.some.injEq, Prod.mk.injEq] at hm156
    obtain ⟨rfl, rfl, rfl⟩ := hm156
    refine ev_ret hF159 [4, 5] (.tuple #[.slice none 0 0, nI 3]) rfl rfl rfl ?_
    exact ⟨_, rfl, hS162⟩
   rw [hc155] at hF152
   have hm166 := ifNot hc155 hm141; clear hm141
   refine ev_condF hF152 rfl rfl ?_
   refine wp_skip ?_
   have hF167 := hF152.keep [0, 11, 12]
   clear hF152
   refine blockN ?_
   refine thenN (wp_seq (wp_region_lit ?_))
   refine ev_runs 1 hF167 (l' := [(52, nP (w103.heap.size) 1), (12, nB w103), (11, nI q48), (0, nP b0 0)]) (w' := w142) (by kernel_rfl) ?_
   intro a169 hF168; clear hF167
   have hS170 := hS154.pick1
   clear hS154
   refine ev_store (nI 1) #[nI (q99.cap), nI 1, nI (q99.count), nI (q99.start), nI (q99.buf), nI (q99.th), nI (q99.tt), nI (q99.sh), nI (q99.st)] hF168 (by kernel_rfl) rfl rfl rfl rfl (by kernel_rfl) hS170 (by kernel_rfl) (by kernel_rfl) (by kernel_rfl) (l' := [(52, nP (w103.heap.size) 1), (12, nB w103), (11, nI q48), (0, nP b0 0)]) (by kernel_rfl) ?_
   intro w171 a172 hS173 hF174; clear hF168 hS170
   refine wpList_nil ?_
   have hF175 := hF174.keep [0, 11, 12]
   clear hF174
   refine thenN (wp_seq (wp_region_lit ?_))
   refine ev_runs 2 hF175 (l' := [(54, nI q48), (53, nP b0 0), (12, nB w103), (11, nI q48), (0, nP b0 0)]) (w' := w171) (by kernel_rfl) ?_
   intro a177 hF176; clear hF175
   refine ev_one (.agg #[nI (q99.cap), nI 1, nI (q99.count), nI (q99.start), nI (q99.buf), nI (q99.th), nI (q99.tt), nI (q99.sh), nI (q99.st)]) w171 hF176 (by kernel_rfl) rfl (by kernel_rfl) (run_loadV rfl rfl (run_loadA (cs := [nI (q99.cap), nI 1, nI (q99.count), nI (q99.start), nI (q99.buf), nI (q99.th), nI (q99.tt), nI (q99.sh), nI (q99.st)]) rfl rfl (by kernel_rfl) (blk_cells hS173 0 rfl rfl))) (l' := [(55, .agg #[nI (q99.cap), nI 1, nI (q99.count), nI (q99.start), nI (q99.buf), nI (q99.th), nI (q99.tt), nI (q99.sh), nI (q99.st)]), (54, nI q48), (53, nP b0 0), (12, nB w103), (11, nI q48), (0, nP b0 0)]) (by kernel_rfl) ?_
   intro a179 hF178; clear hF176
   have hS180 := hS173.pick1
   clear hS173
   refine ev_call 32 #[nP b0 0, nI q48, .agg #[nI (q99.cap), nI 1, nI (q99.count), nI (q99.start), nI (q99.buf), nI (q99.th), nI (q99.tt), nI (q99.sh), nI (q99.st)]] hF178 rfl rfl (by kernel_rfl) rfl (by kernel_rfl) (fun w => by kernel_rfl) ?_
   obtain ⟨x181, s182, hx183, hm184⟩ := bind2E hm166; clear hm166
   refine (p_PutChan hS180 hx183).mono ?_
   rintro _ w185 ⟨rfl, hS187⟩ a186 hF188; clear hF178 hS180
   refine wpList_nil ?_
   have hF189 := hF188.keep [0, 11]
   clear hF188
   have hS190 := hS187.pick1.drop
   clear hS187
   refine thenN (wp_seq (wp_region_lit ?_))
   have hS192 : St w0 F0 (RowP (.slice none 0 0) [] :: HeapP b0 ab0 s182 :: ps) w185 := St.nil hS190
   clear hS190
   refine ev_runs 1 hF189 (l' := [(14, .slice none 0 0), (11, nI q48), (0, nP b0 0)]) (w' := w185) (by kernel_rfl) ?_
   intro a194 hF193; clear hF189
   refine wpList_nil (thenN ?_)
   refine wp_block ?_
   refine wp_loop_ghost (fun kI aI wI => ∃ (v196 : Value) (L195 : List Int) (s197 : HSt), Fr 79 aI [(14, v196), (11, nI q48), (0, nP b0 0)] ∧ St w0 F0 (RowP (v196) L195 :: HeapP b0 ab0 s197 :: ps) wI ∧ shut_Try.l3 k q48 kI L195 s197 = some (r0, r1, t0)) k ⟨.slice none 0 0, [], s182, hF193, hS192, hm184⟩ ?_
   rintro k198 a199 w200 ⟨v196, L195, s197, hF201, hS202, hm203⟩
   clear hF193 hS192 hm184
   rcases k198 with _ | k198
   · cases hm203
   have hm204 : shut_Try.l3b k q48 (shut_Try.l3 k q48 k198) L195 s197 = some (r0, r1, t0) := hm203
   clear hm203
   unfold shut_Try.l3b at hm204
   obtain ⟨hl208, p205, c206, rfl, hp207⟩ := St.shape hS202 0 rfl
   refine wp_block ?_
   refine wp_seq (wp_region_lit ?_)
   refine ev_runs 2 hF201 (l' := [(59, nI q48), (58, nP b0 0), (14, .slice p205 L195.length c206), (11, nI q48), (0, nP b0 0)]) (w' := w200) (by kernel_rfl) ?_
   intro a210 hF209; clear hF201
   have hS211 := hS202.pick1
   clear hS202
   refine ev_call 65 #[nP b0 0, nI q48, .bool false] hF209 rfl rfl (by kernel_rfl) rfl (by kernel_rfl) (fun w => by kernel_rfl) ?_
   obtain ⟨x212, y213, s214, hx215, hm216⟩ := bind3E hm204; clear hm204
   refine (list_Pop.ok hS211 hx215).mono ?_
   rintro _ w217 ⟨rfl, hS219⟩ a218 hF220; clear hF209 hS211
   refine ev_runK 5 hF220 [0, 11, 14, 15, 16] (l' := [(16, .bool (y213)), (15, nI x212), (14, .slice p205 L195.length c206), (11, nI q48), (0, nP b0 0)]) (w' := w217) (by kernel_rfl) ?_
   intro a222 hF221; clear hF220
   refine wpList_nil (thenN (wp_seq (wp_seq (wp_region_lit ?_))))
   refine ev_runK 2 hF221 [0, 11, 14, 15, 64] (l' := [(64, .bool (!(y213))), (15, nI x212), (14, .slice p205 L195.length c206), (11, nI q48), (0, nP b0 0)]) (w' := w217) (by kernel_rfl) ?_
   intro a224 hF223; clear hF221
   refine wpList_nil (thenN ?_)
   cases hc225 : (!(y213))
   case true =>
    rw [hc225] at hF223
    have hm226 := ifYes hc225 hm216; clear hm216
    refine ev_condT hF223 rfl rfl ?_
    refine wp_seq (wp_region_lit ?_)
    refine ev_runK 3 hF223 [4, 5] (l' := [(5, nI 1), (4, .slice p205 L195.length c206)]) (w' := w217) (by kernel_rfl) ?_
    intro a228 hF227; clear hF223
    refine wpList_nil (thenN ?_)
    refine wp_ret ?_
    refine thenR ?_
    refine blockR ?_
    refine thenR ?_
    refine blockR ?_
    simp only [Option.some.injEq, Prod.mk.injEq] at hm226
    obtain ⟨rfl, rfl, rfl⟩ := hm226
    refine ev_ret hF227 [4, 5] (.tuple #[.slice p205 L195.length c206, nI 1]) rfl rfl rfl ?_
    exact ⟨_, rfl, hS219⟩
   rw [hc225] at hF223
   have hm232 := ifNot hc225 hm216; clear hm216
   refine ev_condF hF223 rfl rfl ?_
   refine wp_skip ?_
   have hF233 := hF223.keep [0, 11, 14, 15]
   clear hF223
   refine thenN (wp_seq (wp_region_lit ?_))
   refine ev_runs 2 hF233 (l' := [(68, nI x212), (67, nP b0 0), (15, nI x212), (14, .slice p205 L195.length c206), (11, nI q48), (0, nP b0 0)]) (w' := w217) (by kernel_rfl) ?_
   intro a235 hF234; clear hF233
   refine ev_call 67 #[nI 0] hF234 rfl rfl (by kernel_rfl) rfl (by kernel_rfl) (fun w => by kernel_rfl) ?_
   refine (p_vInt hS219).mono ?_
   rintro _ w236 ⟨rfl, hS238⟩ a237 hF239; clear hF234 hS219
   refine ev_call 66 #[nP b0 0, nI x212, nI (wrap64 (2 * 0))] hF239 rfl rfl (by kernel_rfl) rfl (by kernel_rfl) (fun w => by kernel_rfl) ?_
   obtain ⟨x240, x241, s242, hx243, hm244⟩ := bind3E hm232; clear hm232
   refine (wake_Wake.ok hS238 hx243).mono ?_
   rintro _ w245 ⟨rfl, hS247⟩ a246 hF248; clear hF239 hS238
   refine ev_runK 5 hF248 [0, 11, 14, 17, 18] (l' := [(18, nI x241), (17, nI x240), (14, .slice p205 L195.length c206), (11, nI q48), (0, nP b0 0)]) (w' := w245) (by kernel_rfl) ?_
   intro a250 hF249; clear hF248
   refine wpList_nil (thenN (wp_seq (wp_region_lit ?_)))
   refine ev_runK 2 hF249 [0, 11, 14, 17, 74] (l' := [(74, .bool (x241 == 0)), (17, nI x240), (14, .slice p205 L195.length c206), (11, nI q48), (0, nP b0 0)]) (w' := w245) (by kernel_rfl) ?_
   intro a252 hF251; clear hF249
   refine wpList_nil (thenN ?_)
   refine joinQ (fun aI wI => ∃ (v254 : Value) (L253 : List Int), Fr 79 aI [(14, v254), (11, nI q48), (0, nP b0 0)] ∧ St w0 F0 (HeapP b0 ab0 s242 :: RowP (v254) L253 :: ps) wI ∧ shut_Try.j4 (shut_Try.l3 k q48 k198) s242 L253 = some (r0, r1, t0)) ?_ ?_
   rotate_left
   · rintro a256 w257 ⟨v254, L253, hF258, hS259, hm260⟩
     clear hF251 hS247 hm244
     unfold shut_Try.j4 at hm260
     obtain ⟨hl265, p262, c263, rfl, hp264⟩ := St.shape hS259 1 rfl
     refine blockN ?_
     have hS266 := hS259.pick1
     clear hS259
     exact thenN ⟨k198, Nat.lt_succ_self _, .slice p262 L253.length c263, L253, s242, hF258, hS266, hm260⟩
   · skip
     cases hc267 : (x241 == 0)
     case true =>
      rw [hc267] at hF251
      have hm268 := ifYes hc267 hm244; clear hm244
      refine ev_condT hF251 rfl rfl ?_
      refine wp_region_lit ?_
      refine ev_runs 3 hF251 (l' := [(77, .slice (some ⟨w245.heap.size, 0, none⟩) 1 1), (76, nI x240), (75, .slice p205 L195.length c206), (74, .bool true), (17, nI x240), (14, .slice p205 L195.length c206), (11, nI q48), (0, nP b0 0)]) (w' := w245.alloc (.cells #[nI x240] 3)) (by kernel_rfl) ?_
      intro a270 hF269; clear hF251
      have hS271 := hS247.pick1
      clear hS247
      obtain ⟨L272, hx273, hm274⟩ := bind1E hm268; clear hm268
      refine ev_push 78 (.tmp 75) (.tmp 77) hF269 rfl rfl rfl rfl rfl rfl rfl rfl hS271 hx273 ?_
      intro g275 c276 w277 a278 hS279 hF280; clear hF269 hS271
      refine ev_runK 1 hF280 [0, 11, 14] (l' := [(14, nS g275 L272 c276), (11, nI q48), (0, nP b0 0)]) (w' := w277) (by kernel_rfl) ?_
      intro a282 hF281; clear hF280
      refine wpList_nil ?_
      have hS283 := hS279.pick1
      clear hS279
      exact thenN ⟨nS g275 L272 c276, L272, hF281, hS283, hm274⟩
     rw [hc267] at hF251
     have hm284 := ifNot hc267 hm244; clear hm244
     refine ev_condF hF251 rfl rfl ?_
     refine wp_skip ?_
     have hF285 := hF251.keep [0, 11, 14]
     clear hF251
     exact thenN ⟨.slice p205 L195.length c206, L195, hF285, hS247, hm284⟩

end Go.Proofs.YtgejcjcpchofiaaGreat
