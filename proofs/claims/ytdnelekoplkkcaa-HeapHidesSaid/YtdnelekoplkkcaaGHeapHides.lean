/- The walks of GHeapHides, printed by gen/walk.py. -/
import Derived.Test.YtdnelekoplkkcaaG09
import Derived.Deep.LoopGhost
import Derived.KernelRfl
namespace Go.Proofs.Ytdnelekoplkkcaa
open Go.RowKit
set_option linter.unusedVariables false

def HeapHides.l4b (L76 : List Int) (x136 : Int) (rec408 : HSt → Int → Option (Bool)) (s404 : HSt) (x405 : Int) : Option (Bool) := (if (decide (x405 < 200)) then (if (s404.ph != 0) then bind2 (pStep s404) fun L432 s433 => rec408 s433 (IntKind.i64.wrap (x405 + 1)) else (if (inR (0 : Int) L76.length) then (if ((aKind s404.a.c x136) == 5) then (if ((aKind s404.a.c (atI L76 (0 : Int))) == 5) then some (s404.cy == 1) else some (false)) else some (false)) else none)) else (if (inR (0 : Int) L76.length) then (if ((aKind s404.a.c x136) == 5) then (if ((aKind s404.a.c (atI L76 (0 : Int))) == 5) then some (s404.cy == 1) else some (false)) else some (false)) else none))
def HeapHides.l4 (L76 : List Int) (x136 : Int) : Nat → HSt → Int → Option (Bool)
  | 0 => fun _ _ => none
  | kI + 1 => HeapHides.l4b L76 x136 (HeapHides.l4 L76 x136 kI)
def HeapHides.l3b (k : Nat) (x6 : Int) (x19 : Int) (L76 : List Int) (x136 : Int) (rec280 : HSt → Int → Option (Bool)) (s276 : HSt) (x277 : Int) : Option (Bool) := (if (decide (x277 < x19)) then bind2 (pStep s276) fun L293 s294 => rec280 s294 (IntKind.i64.wrap (x277 + 1)) else (if (inR (IntKind.i64.wrap (x6 - 1)) L76.length) then bind2 (pLoad (atI L76 (IntKind.i64.wrap (x6 - 1))) 0 s276) fun x322 x323 => (if (x323 != 0) then some (false) else (if (s276.ph != 1) then some (false) else (if (inR (0 : Int) L76.length) then bind2 (pStore (atI L76 (0 : Int)) 0 x322 s276) fun x376 s377 => bind2 (pStore (atI L76 (IntKind.i64.wrap (x6 - 1))) 0 0 s377) fun x392 s393 => HeapHides.l4 L76 x136 k s393 0 else none))) else none))
def HeapHides.l3 (k : Nat) (x6 : Int) (x19 : Int) (L76 : List Int) (x136 : Int) : Nat → HSt → Int → Option (Bool)
  | 0 => fun _ _ => none
  | kI + 1 => HeapHides.l3b k x6 x19 L76 x136 (HeapHides.l3 k x6 x19 L76 x136 kI)
def HeapHides.l2b (k : Nat) (x6 : Int) (x19 : Int) (L76 : List Int) (x136 : Int) (rec190 : HSt → Int → Option (Bool)) (s186 : HSt) (x187 : Int) : Option (Bool) := (if (decide ((IntKind.i64.wrap (x187 + 1)) < x6)) then (if (inR x187 L76.length) then (if (inR (IntKind.i64.wrap (x187 + 1)) L76.length) then bind2 (pStore (atI L76 x187) 0 (wrap64 (wrap64 ((atI L76 (IntKind.i64.wrap (x187 + 1))) * 2) + 1)) s186) fun x233 s234 => rec190 s234 (IntKind.i64.wrap (x187 + 1)) else none) else none) else (if (leR (1 : Int) L76.length) then bind2 (pBegin s186 (L76.take (1 : Int).toNat)) fun x253 s254 => (if (x253 != 0) then some (false) else HeapHides.l3 k x6 x19 L76 x136 k s254 0) else none))
def HeapHides.l2 (k : Nat) (x6 : Int) (x19 : Int) (L76 : List Int) (x136 : Int) : Nat → HSt → Int → Option (Bool)
  | 0 => fun _ _ => none
  | kI + 1 => HeapHides.l2b k x6 x19 L76 x136 (HeapHides.l2 k x6 x19 L76 x136 kI)
def HeapHides.l1b (k : Nat) (x6 : Int) (x19 : Int) (rec82 : List Int → HSt → Int → Option (Bool)) (L76 : List Int) (s78 : HSt) (x79 : Int) : Option (Bool) := (if (decide (x79 < x6)) then bind3 (pAlloc 5 2 s78) fun x100 x101 s102 => bind1 (pushM L76 x100) fun L116 => rec82 L116 s102 (IntKind.i64.wrap (x79 + 1)) else bind3 (pAlloc 5 2 s78) fun x136 x137 s138 => (if (inR (IntKind.i64.wrap (x6 - 1)) L76.length) then bind2 (pStore (atI L76 (IntKind.i64.wrap (x6 - 1))) 0 (wrap64 (wrap64 (x136 * 2) + 1)) s138) fun x174 s175 => HeapHides.l2 k x6 x19 L76 x136 k s175 0 else none))
def HeapHides.l1 (k : Nat) (x6 : Int) (x19 : Int) : Nat → List Int → HSt → Int → Option (Bool)
  | 0 => fun _ _ _ => none
  | kI + 1 => HeapHides.l1b k x6 x19 (HeapHides.l1 k x6 x19 kI)
def HeapHides.m (k : Nat) (i0 : Int) (i1 : Int) : Option (Bool) := bind1 (some (IntKind.i64.wrap (2 + (IntKind.i64.wrap (Int.tmod (IntKind.u64.wrap i1) 10))))) fun x6 => (if ((IntKind.u64.wrap (IntKind.i64.wrap (x6 + 1))) == 0) then none else bind1 (some (IntKind.i64.wrap (Int.tmod (IntKind.u64.wrap i0) (IntKind.u64.wrap (IntKind.i64.wrap (x6 + 1)))))) fun x19 => bind1 (pNew 20) fun s24 => bind1 (law09_awake.m k ) fun y38 => (if (!(y38)) then some (false) else HeapHides.l1 k x6 x19 k [] s24 0))
set_option maxRecDepth 100000 in
set_option maxHeartbeats 4000000 in
theorem HeapHides.ok {w0 w : World} {F0 : List Nat} {ps : List Piece} {k : Nat} {i0 : Int} {i1 : Int} {r0 : Bool} (hS : St w0 F0 (ps) w) (hm : HeapHides.m k i0 i1 = some r0) :
    Calls Try.prog 10 #[.int .i64 (i0), .int .i64 (i1)] w fun e w' => e = .returned (.bool r0) ∧ St w0 F0 (ps) w' := by
  refine ev_enterL 167 [.int .i64 (i0), .int .i64 (i1)] Try.func10 rfl rfl (by simp) ?_
  intro a hF
  have hF0 : Fr 167 a [(0, .int .i64 (i0)), (1, .int .i64 (i1))] := hF; clear hF
  unfold HeapHides.m at hm
  refine wp_seq ?_
  refine wp_region_lit ?_
  refine ev_runs 1 hF0 (l' := [(4, .bool false), (0, .int .i64 (i0)), (1, .int .i64 (i1))]) (w' := w) (by kernel_rfl) ?_
  intro a2 hF1; clear hF0
  refine wpList_nil ?_
  have hF3 : Fr 167 a2 [(0, .int .i64 (i0)), (1, .int .i64 (i1))] := hF1.keep [0, 1]
  clear hF1
  refine thenN ?_
  refine wp_seq ?_
  refine wp_region_lit ?_
  refine ev_runs 6 hF3 (l' := [(1, .int .i64 (IntKind.i64.wrap (2 + (IntKind.i64.wrap (Int.tmod (IntKind.u64.wrap i1) 10))))), (22, .int .i64 (IntKind.i64.wrap (2 + (IntKind.i64.wrap (Int.tmod (IntKind.u64.wrap i1) 10))))), (21, .int .i64 (IntKind.i64.wrap (Int.tmod (IntKind.u64.wrap i1) 10))), (20, .int .u64 (Int.tmod (IntKind.u64.wrap i1) 10)), (19, .int .u64 (IntKind.u64.wrap i1)), (18, .int .i64 (i1)), (0, .int .i64 (i0))]) (w' := w) (by kernel_rfl) ?_
  intro a5 hF4; clear hF3
  obtain ⟨x6, hx7, hm8⟩ := bind1E hm; clear hm
  have hF9 := hF4; rw [Option.some.inj hx7] at hF9; clear hF4
  refine wpList_nil ?_
  have hF10 : Fr 167 a5 [(1, .int .i64 (x6)), (0, .int .i64 (i0))] := hF9.keep [0, 1]
  clear hF9
  refine thenN ?_
  refine wp_seq ?_
  refine wp_region_lit ?_
  refine ev_runs 5 hF10 (l' := [(27, .int .u64 (IntKind.u64.wrap (IntKind.i64.wrap (x6 + 1)))), (26, .int .i64 (IntKind.i64.wrap (x6 + 1))), (25, .int .i64 (x6)), (24, .int .u64 (IntKind.u64.wrap i0)), (23, .int .i64 (i0)), (1, .int .i64 (x6)), (0, .int .i64 (i0))]) (w' := w) (by kernel_rfl) ?_
  intro a12 hF11; clear hF10
  cases hc13 : ((IntKind.u64.wrap (IntKind.i64.wrap (x6 + 1))) == 0) with
  | true => rw [hc13] at hm8; cases hm8
  | false =>
    rw [hc13] at hm8
    have hm14 := ifF hm8; clear hm8
    refine ev_one (.int .u64 (Int.tmod (IntKind.u64.wrap i0) (IntKind.u64.wrap (IntKind.i64.wrap (x6 + 1))))) w hF11 (by kernel_rfl) rfl (by kernel_rfl) (run_rem rfl rfl rfl hc13 _) (l' := [(28, .int .u64 (Int.tmod (IntKind.u64.wrap i0) (IntKind.u64.wrap (IntKind.i64.wrap (x6 + 1))))), (27, .int .u64 (IntKind.u64.wrap (IntKind.i64.wrap (x6 + 1)))), (26, .int .i64 (IntKind.i64.wrap (x6 + 1))), (25, .int .i64 (x6)), (24, .int .u64 (IntKind.u64.wrap i0)), (23, .int .i64 (i0)), (1, .int .i64 (x6)), (0, .int .i64 (i0))]) (by kernel_rfl) ?_
    intro a16 hF15; clear hF11
    refine ev_runs 2 hF15 (l' := [(0, .int .i64 (IntKind.i64.wrap (Int.tmod (IntKind.u64.wrap i0) (IntKind.u64.wrap (IntKind.i64.wrap (x6 + 1)))))), (29, .int .i64 (IntKind.i64.wrap (Int.tmod (IntKind.u64.wrap i0) (IntKind.u64.wrap (IntKind.i64.wrap (x6 + 1)))))), (28, .int .u64 (Int.tmod (IntKind.u64.wrap i0) (IntKind.u64.wrap (IntKind.i64.wrap (x6 + 1))))), (27, .int .u64 (IntKind.u64.wrap (IntKind.i64.wrap (x6 + 1)))), (26, .int .i64 (IntKind.i64.wrap (x6 + 1))), (25, .int .i64 (x6)), (24, .int .u64 (IntKind.u64.wrap i0)), (23, .int .i64 (i0)), (1, .int .i64 (x6))]) (w' := w) (by kernel_rfl) ?_
    intro a18 hF17; clear hF15
    obtain ⟨x19, hx20, hm21⟩ := bind1E hm14; clear hm14
    have hF22 := hF17; rw [Option.some.inj hx20] at hF22; clear hF17
    refine wpList_nil ?_
    have hF23 : Fr 167 a18 [(0, .int .i64 (x19)), (1, .int .i64 (x6))] := hF22.keep [0, 1]
    clear hF22
    refine thenN ?_
    refine wp_seq ?_
    refine wp_region_lit ?_
    refine ev_call 27 #[.int .i64 20] hF23 rfl rfl (by kernel_rfl) rfl (by kernel_rfl) (fun w => by kernel_rfl) ?_
    obtain ⟨s24, hx25, hm26⟩ := bind1E hm21; clear hm21
    refine (p_New hS hx25).mono ?_
    rintro _ w27 ⟨z31, z32, rfl, hS29⟩ a28 hF30; clear hF23 hS
    have hF34 : Fr 167 a28 [(31, .tuple #[.pointer (some ⟨z31, 0, none⟩), .int .i64 0]), (0, .int .i64 (x19)), (1, .int .i64 (x6))] := hF30
    clear hF30
    refine ev_runs 5 hF34 (l' := [(6, .int .i64 0), (5, .pointer (some ⟨z31, 0, none⟩)), (33, .int .i64 0), (32, .pointer (some ⟨z31, 0, none⟩)), (30, .tuple #[.pointer (some ⟨z31, 0, none⟩), .int .i64 0]), (31, .tuple #[.pointer (some ⟨z31, 0, none⟩), .int .i64 0]), (0, .int .i64 (x19)), (1, .int .i64 (x6))]) (w' := w27) (by kernel_rfl) ?_
    intro a36 hF35; clear hF34
    refine wpList_nil ?_
    have hF37 : Fr 167 a36 [(6, .int .i64 0), (5, .pointer (some ⟨z31, 0, none⟩)), (0, .int .i64 (x19)), (1, .int .i64 (x6))] := hF35.keep [0, 1, 5, 6]
    clear hF35
    refine thenN ?_
    refine wp_seq ?_
    refine wp_seq ?_
    refine wp_region_lit ?_
    refine ev_call 28 #[] hF37 rfl rfl (by kernel_rfl) rfl (by kernel_rfl) (fun w => by kernel_rfl) ?_
    obtain ⟨y38, hx39, hm40⟩ := bind1E hm26; clear hm26
    refine (law09_awake.ok hS29 hx39).mono ?_
    rintro _ w41 ⟨rfl, hS43⟩ a42 hF44; clear hF37 hS29
    have hF45 : Fr 167 a42 [(34, .bool (y38)), (6, .int .i64 0), (5, .pointer (some ⟨z31, 0, none⟩)), (0, .int .i64 (x19)), (1, .int .i64 (x6))] := hF44
    clear hF44
    refine ev_runs 2 hF45 (l' := [(36, .bool (!(y38))), (35, .bool (!(y38))), (34, .bool (y38)), (6, .int .i64 0), (5, .pointer (some ⟨z31, 0, none⟩)), (0, .int .i64 (x19)), (1, .int .i64 (x6))]) (w' := w41) (by kernel_rfl) ?_
    intro a47 hF46; clear hF45
    cases hc48 : (!(y38)) with
    | true =>
      rw [hc48] at hF46
      rw [hc48] at hm40
      have hm49 := ifT hm40; clear hm40
      refine ev_runs 12 hF46 (l' := [(48, .bool true), (47, .tuple #[]), (46, .tuple #[]), (45, .tuple #[]), (44, .bool true), (43, .bool true), (42, .tuple #[]), (41, .tuple #[]), (40, .bool true), (39, .bool true), (38, .tuple #[]), (37, .tuple #[]), (36, .bool true), (35, .bool true), (34, .bool (y38)), (6, .int .i64 0), (5, .pointer (some ⟨z31, 0, none⟩)), (0, .int .i64 (x19)), (1, .int .i64 (x6))]) (w' := w41) (by kernel_rfl) ?_
      intro a51 hF50; clear hF46
      refine wpList_nil ?_
      have hF52 : Fr 167 a51 [(48, .bool true), (5, .pointer (some ⟨z31, 0, none⟩)), (0, .int .i64 (x19)), (1, .int .i64 (x6))] := hF50.keep [0, 1, 5, 48]
      clear hF50
      refine thenN ?_
      refine ev_condT hF52 rfl rfl ?_
      refine wp_seq ?_
      refine wp_region_lit ?_
      refine ev_runs 1 hF52 (l' := [(4, .bool false), (48, .bool true), (5, .pointer (some ⟨z31, 0, none⟩)), (0, .int .i64 (x19)), (1, .int .i64 (x6))]) (w' := w41) (by kernel_rfl) ?_
      intro a54 hF53; clear hF52
      refine wpList_nil ?_
      have hF55 : Fr 167 a54 [(4, .bool false)] := hF53.keep [4]
      clear hF53
      have hS56 : St w0 F0 (ps) w41 := St.ordP [HeapP z31 z32 s24] ps hS43 [] [0] (by kernel_rfl)
      clear hS43
      refine thenN ?_
      refine wp_ret ?_
      refine thenR ?_
      obtain rfl := Option.some.inj hm49
      refine ev_ret hF55 [4] (.bool false) rfl rfl rfl ?_
      exact ⟨rfl, hS56⟩
    | false =>
      rw [hc48] at hF46
      rw [hc48] at hm40
      have hm58 := ifF hm40; clear hm40
      refine ev_runs 9 hF46 (l' := [(45, .pointer (some ⟨z31, 0, none⟩)), (44, .bool false), (43, .bool false), (42, .bool false), (41, .pointer (some ⟨z31, 0, none⟩)), (40, .bool false), (39, .bool false), (38, .bool false), (37, .int .i64 0), (36, .bool false), (35, .bool false), (34, .bool (y38)), (6, .int .i64 0), (5, .pointer (some ⟨z31, 0, none⟩)), (0, .int .i64 (x19)), (1, .int .i64 (x6))]) (w' := w41) (by kernel_rfl) ?_
      intro a60 hF59; clear hF46
      refine ev_call 24 #[.pointer (some ⟨z31, 0, none⟩)] hF59 rfl rfl (by kernel_rfl) rfl (by kernel_rfl) (fun w => by kernel_rfl) ?_
      refine (p_Arena hS43).mono ?_
      rintro _ w61 ⟨rfl, hS63⟩ a62 hF64; clear hF59 hS43
      have hF65 : Fr 167 a62 [(46, .pointer (some ⟨z32, 0, none⟩)), (45, .pointer (some ⟨z31, 0, none⟩)), (44, .bool false), (43, .bool false), (42, .bool false), (41, .pointer (some ⟨z31, 0, none⟩)), (40, .bool false), (39, .bool false), (38, .bool false), (37, .int .i64 0), (36, .bool false), (35, .bool false), (34, .bool (y38)), (6, .int .i64 0), (5, .pointer (some ⟨z31, 0, none⟩)), (0, .int .i64 (x19)), (1, .int .i64 (x6))] := hF64
      clear hF64
      refine ev_runs 2 hF65 (l' := [(48, .bool false), (47, .bool false), (46, .pointer (some ⟨z32, 0, none⟩)), (45, .pointer (some ⟨z31, 0, none⟩)), (44, .bool false), (43, .bool false), (42, .bool false), (41, .pointer (some ⟨z31, 0, none⟩)), (40, .bool false), (39, .bool false), (38, .bool false), (37, .int .i64 0), (36, .bool false), (35, .bool false), (34, .bool (y38)), (6, .int .i64 0), (5, .pointer (some ⟨z31, 0, none⟩)), (0, .int .i64 (x19)), (1, .int .i64 (x6))]) (w' := w61) (by kernel_rfl) ?_
      intro a67 hF66; clear hF65
      refine wpList_nil ?_
      have hF68 : Fr 167 a67 [(48, .bool false), (5, .pointer (some ⟨z31, 0, none⟩)), (0, .int .i64 (x19)), (1, .int .i64 (x6))] := hF66.keep [0, 1, 5, 48]
      clear hF66
      refine thenN ?_
      refine ev_condF hF68 rfl rfl ?_
      refine wp_skip ?_
      have hF69 : Fr 167 a67 [(5, .pointer (some ⟨z31, 0, none⟩)), (0, .int .i64 (x19)), (1, .int .i64 (x6))] := hF68.keep [0, 1, 5]
      clear hF68
      refine thenN ?_
      refine wp_seq ?_
      refine wp_region_lit ?_
      have hS71 : St w0 F0 (RowP (.slice none 0 0) [] :: HeapP z31 z32 s24 :: ps) w61 := St.nil hS63
      clear hS63
      refine ev_runs 1 hF69 (l' := [(7, .slice none 0 0), (5, .pointer (some ⟨z31, 0, none⟩)), (0, .int .i64 (x19)), (1, .int .i64 (x6))]) (w' := w61) (by kernel_rfl) ?_
      intro a73 hF72; clear hF69
      refine wpList_nil ?_
      refine thenN ?_
      refine wp_seq ?_
      refine wp_seq ?_
      refine wp_region_lit ?_
      refine ev_runs 1 hF72 (l' := [(8, .int .i64 0), (7, .slice none 0 0), (5, .pointer (some ⟨z31, 0, none⟩)), (0, .int .i64 (x19)), (1, .int .i64 (x6))]) (w' := w61) (by kernel_rfl) ?_
      intro a75 hF74; clear hF72
      refine wpList_nil ?_
      refine thenN ?_
      refine wp_block ?_
      refine wp_loop_ghost (fun kI a w => ∃ (v77 : Value) (L76 : List Int) (s78 : HSt) (x79 : Int), Fr 167 a [(8, .int .i64 (x79)), (7, v77), (5, .pointer (some ⟨z31, 0, none⟩)), (0, .int .i64 (x19)), (1, .int .i64 (x6))] ∧ St w0 F0 (RowP (v77) L76 :: HeapP z31 z32 s78 :: ps) w ∧ HeapHides.l1 k x6 x19 kI L76 s78 x79 = some r0) k ⟨.slice none 0 0, [], s24, 0, hF74, hS71, hm58⟩ ?_
      rintro k80 a81 w82 ⟨v77, L76, s78, x79, hF83, hS84, hm85⟩
      clear hF74 hS71 hm58
      cases k80 with
      | zero => cases hm85
      | succ k80 =>
        have hm86 : HeapHides.l1b k x6 x19 (HeapHides.l1 k x6 x19 k80) L76 s78 x79 = some r0 := hm85
        clear hm85
        unfold HeapHides.l1b at hm86
        obtain ⟨hl90, p87, c88, rfl, hp89⟩ := St.shape hS84 0 rfl
        refine wp_seq ?_
        refine wp_seq ?_
        refine wp_region_lit ?_
        refine ev_runs 3 hF83 (l' := [(51, .bool (decide (x79 < x6))), (50, .int .i64 (x6)), (49, .int .i64 (x79)), (8, .int .i64 (x79)), (7, .slice p87 L76.length c88), (5, .pointer (some ⟨z31, 0, none⟩)), (0, .int .i64 (x19)), (1, .int .i64 (x6))]) (w' := w82) (by kernel_rfl) ?_
        intro a92 hF91; clear hF83
        refine wpList_nil ?_
        have hF93 : Fr 167 a92 [(51, .bool (decide (x79 < x6))), (8, .int .i64 (x79)), (7, .slice p87 L76.length c88), (5, .pointer (some ⟨z31, 0, none⟩)), (0, .int .i64 (x19)), (1, .int .i64 (x6))] := hF91.keep [0, 1, 5, 7, 8, 51]
        clear hF91
        refine thenN ?_
        cases hc94 : (decide (x79 < x6)) with
        | true =>
          rw [hc94] at hF93
          rw [hc94] at hm86
          have hm95 := ifT hm86; clear hm86
          refine ev_condT hF93 rfl rfl ?_
          refine wp_skip ?_
          have hF96 : Fr 167 a92 [(8, .int .i64 (x79)), (7, .slice p87 L76.length c88), (5, .pointer (some ⟨z31, 0, none⟩)), (0, .int .i64 (x19)), (1, .int .i64 (x6))] := hF93.keep [0, 1, 5, 7, 8]
          clear hF93
          refine thenN ?_
          refine wp_seq ?_
          refine wp_block ?_
          refine wp_seq ?_
          refine wp_region_lit ?_
          refine ev_runs 1 hF96 (l' := [(55, .pointer (some ⟨z31, 0, none⟩)), (8, .int .i64 (x79)), (7, .slice p87 L76.length c88), (5, .pointer (some ⟨z31, 0, none⟩)), (0, .int .i64 (x19)), (1, .int .i64 (x6))]) (w' := w82) (by kernel_rfl) ?_
          intro a98 hF97; clear hF96
          have hS99 : St w0 F0 (HeapP z31 z32 s78 :: RowP (.slice p87 L76.length c88) L76 :: ps) w82 := St.ordP [RowP (.slice p87 L76.length c88) L76, HeapP z31 z32 s78] ps hS84 [1, 0] [] (by kernel_rfl)
          clear hS84
          refine ev_call 29 #[.pointer (some ⟨z31, 0, none⟩), .int .i64 5, .int .i64 2] hF97 rfl rfl (by kernel_rfl) rfl (by kernel_rfl) (fun w => by kernel_rfl) ?_
          obtain ⟨x100, x101, s102, hx103, hm104⟩ := bind3E hm95; clear hm95
          refine (p_Alloc hS99 hx103).mono ?_
          rintro _ w105 ⟨rfl, hS107⟩ a106 hF108; clear hF97 hS99
          have hF109 : Fr 167 a106 [(56, .tuple #[.int .i64 (x100), .int .i64 (x101)]), (55, .pointer (some ⟨z31, 0, none⟩)), (8, .int .i64 (x79)), (7, .slice p87 L76.length c88), (5, .pointer (some ⟨z31, 0, none⟩)), (0, .int .i64 (x19)), (1, .int .i64 (x6))] := hF108
          clear hF108
          refine ev_runs 5 hF109 (l' := [(10, .int .i64 (x101)), (9, .int .i64 (x100)), (58, .int .i64 (x101)), (57, .int .i64 (x100)), (54, .tuple #[.int .i64 (x100), .int .i64 (x101)]), (56, .tuple #[.int .i64 (x100), .int .i64 (x101)]), (55, .pointer (some ⟨z31, 0, none⟩)), (8, .int .i64 (x79)), (7, .slice p87 L76.length c88), (5, .pointer (some ⟨z31, 0, none⟩)), (0, .int .i64 (x19)), (1, .int .i64 (x6))]) (w' := w105) (by kernel_rfl) ?_
          intro a111 hF110; clear hF109
          refine wpList_nil ?_
          have hF112 : Fr 167 a111 [(9, .int .i64 (x100)), (8, .int .i64 (x79)), (7, .slice p87 L76.length c88), (5, .pointer (some ⟨z31, 0, none⟩)), (0, .int .i64 (x19)), (1, .int .i64 (x6))] := hF110.keep [0, 1, 5, 7, 8, 9]
          clear hF110
          refine thenN ?_
          refine wp_region_lit ?_
          refine ev_runs 3 hF112 (l' := [(61, .slice (some ⟨w105.heap.size, 0, none⟩) 1 1), (60, .int .i64 (x100)), (59, .slice p87 L76.length c88), (9, .int .i64 (x100)), (8, .int .i64 (x79)), (7, .slice p87 L76.length c88), (5, .pointer (some ⟨z31, 0, none⟩)), (0, .int .i64 (x19)), (1, .int .i64 (x6))]) (w' := w105.alloc (.cells #[.int .i64 (x100)] 3)) (by kernel_rfl) ?_
          intro a114 hF113; clear hF112
          have hS115 : St w0 F0 (RowP (.slice p87 L76.length c88) L76 :: HeapP z31 z32 s102 :: ps) w105 := St.ordP [HeapP z31 z32 s102, RowP (.slice p87 L76.length c88) L76] ps hS107 [1, 0] [] (by kernel_rfl)
          clear hS107
          obtain ⟨L116, hx117, hm118⟩ := bind1E hm104; clear hm104
          refine ev_push 62 (.tmp 59) (.tmp 61) hF113 rfl rfl rfl rfl rfl rfl rfl rfl hS115 hx117 ?_
          intro g119 c120 w121 a122 hS123 hF124; clear hF113 hS115
          have hF125 : Fr 167 a122 [(62, .slice (some ⟨g119, 0, none⟩) L116.length c120), (61, .slice (some ⟨w105.heap.size, 0, none⟩) 1 1), (60, .int .i64 (x100)), (59, .slice p87 L76.length c88), (9, .int .i64 (x100)), (8, .int .i64 (x79)), (7, .slice p87 L76.length c88), (5, .pointer (some ⟨z31, 0, none⟩)), (0, .int .i64 (x19)), (1, .int .i64 (x6))] := hF124
          clear hF124
          refine ev_runs 1 hF125 (l' := [(7, .slice (some ⟨g119, 0, none⟩) L116.length c120), (62, .slice (some ⟨g119, 0, none⟩) L116.length c120), (61, .slice (some ⟨w105.heap.size, 0, none⟩) 1 1), (60, .int .i64 (x100)), (59, .slice p87 L76.length c88), (9, .int .i64 (x100)), (8, .int .i64 (x79)), (5, .pointer (some ⟨z31, 0, none⟩)), (0, .int .i64 (x19)), (1, .int .i64 (x6))]) (w' := w121) (by kernel_rfl) ?_
          intro a127 hF126; clear hF125
          refine wpList_nil ?_
          have hF128 : Fr 167 a127 [(7, .slice (some ⟨g119, 0, none⟩) L116.length c120), (8, .int .i64 (x79)), (5, .pointer (some ⟨z31, 0, none⟩)), (0, .int .i64 (x19)), (1, .int .i64 (x6))] := hF126.keep [0, 1, 5, 7, 8]
          clear hF126
          refine blockN ?_
          refine thenN ?_
          refine wp_region_lit ?_
          refine ev_runs 3 hF128 (l' := [(8, .int .i64 (IntKind.i64.wrap (x79 + 1))), (53, .int .i64 (IntKind.i64.wrap (x79 + 1))), (52, .int .i64 (x79)), (7, .slice (some ⟨g119, 0, none⟩) L116.length c120), (5, .pointer (some ⟨z31, 0, none⟩)), (0, .int .i64 (x19)), (1, .int .i64 (x6))]) (w' := w121) (by kernel_rfl) ?_
          intro a130 hF129; clear hF128
          refine wpList_nil ?_
          have hF131 : Fr 167 a130 [(8, .int .i64 (IntKind.i64.wrap (x79 + 1))), (7, .slice (some ⟨g119, 0, none⟩) L116.length c120), (5, .pointer (some ⟨z31, 0, none⟩)), (0, .int .i64 (x19)), (1, .int .i64 (x6))] := hF129.keep [0, 1, 5, 7, 8]
          clear hF129
          exact thenN ⟨k80, Nat.lt_succ_self _, .slice (some ⟨g119, 0, none⟩) L116.length c120, L116, s102, IntKind.i64.wrap (x79 + 1), hF131, hS123, hm118⟩
        | false =>
          rw [hc94] at hF93
          rw [hc94] at hm86
          have hm132 := ifF hm86; clear hm86
          refine ev_condF hF93 rfl rfl ?_
          refine wp_exit ?_
          refine thenE ?_
          refine thenE ?_
          refine blockE ?_
          refine thenN ?_
          refine wp_seq ?_
          refine wp_region_lit ?_
          refine ev_runs 1 hF93 (l' := [(64, .pointer (some ⟨z31, 0, none⟩)), (51, .bool false), (8, .int .i64 (x79)), (7, .slice p87 L76.length c88), (5, .pointer (some ⟨z31, 0, none⟩)), (0, .int .i64 (x19)), (1, .int .i64 (x6))]) (w' := w82) (by kernel_rfl) ?_
          intro a134 hF133; clear hF93
          have hS135 : St w0 F0 (HeapP z31 z32 s78 :: RowP (.slice p87 L76.length c88) L76 :: ps) w82 := St.ordP [RowP (.slice p87 L76.length c88) L76, HeapP z31 z32 s78] ps hS84 [1, 0] [] (by kernel_rfl)
          clear hS84
          refine ev_call 29 #[.pointer (some ⟨z31, 0, none⟩), .int .i64 5, .int .i64 2] hF133 rfl rfl (by kernel_rfl) rfl (by kernel_rfl) (fun w => by kernel_rfl) ?_
          obtain ⟨x136, x137, s138, hx139, hm140⟩ := bind3E hm132; clear hm132
          refine (p_Alloc hS135 hx139).mono ?_
          rintro _ w141 ⟨rfl, hS143⟩ a142 hF144; clear hF133 hS135
          have hF145 : Fr 167 a142 [(65, .tuple #[.int .i64 (x136), .int .i64 (x137)]), (64, .pointer (some ⟨z31, 0, none⟩)), (51, .bool false), (8, .int .i64 (x79)), (7, .slice p87 L76.length c88), (5, .pointer (some ⟨z31, 0, none⟩)), (0, .int .i64 (x19)), (1, .int .i64 (x6))] := hF144
          clear hF144
          refine ev_runs 5 hF145 (l' := [(12, .int .i64 (x137)), (11, .int .i64 (x136)), (67, .int .i64 (x137)), (66, .int .i64 (x136)), (63, .tuple #[.int .i64 (x136), .int .i64 (x137)]), (65, .tuple #[.int .i64 (x136), .int .i64 (x137)]), (64, .pointer (some ⟨z31, 0, none⟩)), (51, .bool false), (8, .int .i64 (x79)), (7, .slice p87 L76.length c88), (5, .pointer (some ⟨z31, 0, none⟩)), (0, .int .i64 (x19)), (1, .int .i64 (x6))]) (w' := w141) (by kernel_rfl) ?_
          intro a147 hF146; clear hF145
          refine wpList_nil ?_
          have hF148 : Fr 167 a147 [(11, .int .i64 (x136)), (7, .slice p87 L76.length c88), (5, .pointer (some ⟨z31, 0, none⟩)), (0, .int .i64 (x19)), (1, .int .i64 (x6))] := hF146.keep [0, 1, 5, 7, 11]
          clear hF146
          refine thenN ?_
          refine wp_seq ?_
          -- draws
          cases hc149 : (inR (IntKind.i64.wrap (x6 - 1)) L76.length) with
          | false => rw [hc149] at hm140; cases hm140
          | true =>
            rw [hc149] at hm140
            have hm150 := ifT hm140; clear hm140
            obtain ⟨g151, rfl⟩ := hp89.resolve_left (by have := inR_spec hc149; omega)
            have hS152 : St w0 F0 (RowP (.slice (some ⟨g151, 0, none⟩) L76.length c88) L76 :: HeapP z31 z32 s138 :: ps) w141 := St.ordP [HeapP z31 z32 s138, RowP (.slice (some ⟨g151, 0, none⟩) L76.length c88) L76] ps hS143 [1, 0] [] (by kernel_rfl)
            clear hS143
            have hS153 := hS152.drew; clear hS152
            refine any_start (fun w => ∃ qs, St w0 F0 (RowP (.slice (some ⟨g151, 0, none⟩) L76.length c88) L76 :: qs) w) (by kernel_rfl) ?_
            refine any_take 0 (.pointer (some ⟨z31, 0, none⟩)) hF148 rfl (by kernel_rfl) rfl (by kernel_rfl) (fun w hw => by kernel_rfl) (l' := [(68, .pointer (some ⟨z31, 0, none⟩)), (11, .int .i64 (x136)), (7, .slice (some ⟨g151, 0, none⟩) L76.length c88), (5, .pointer (some ⟨z31, 0, none⟩)), (0, .int .i64 (x19)), (1, .int .i64 (x6))]) (by kernel_rfl) (by kernel_rfl) (by kernel_rfl) (by kernel_rfl) (fun _ _ _ h => h) ⟨_, hS153⟩ ?_
            intro a155 hF154; clear hF148
            refine any_take 1 (.slice (some ⟨g151, 0, none⟩) L76.length c88) hF154 rfl (by kernel_rfl) rfl (by kernel_rfl) (fun w hw => by kernel_rfl) (l' := [(69, .slice (some ⟨g151, 0, none⟩) L76.length c88), (68, .pointer (some ⟨z31, 0, none⟩)), (11, .int .i64 (x136)), (7, .slice (some ⟨g151, 0, none⟩) L76.length c88), (5, .pointer (some ⟨z31, 0, none⟩)), (0, .int .i64 (x19)), (1, .int .i64 (x6))]) (by kernel_rfl) (by kernel_rfl) (by kernel_rfl) (by kernel_rfl) (fun _ _ _ h => h) ⟨_, hS153⟩ ?_
            intro a157 hF156; clear hF154
            refine any_take 2 (.int .i64 (x6)) hF156 rfl (by kernel_rfl) rfl (by kernel_rfl) (fun w hw => by kernel_rfl) (l' := [(70, .int .i64 (x6)), (69, .slice (some ⟨g151, 0, none⟩) L76.length c88), (68, .pointer (some ⟨z31, 0, none⟩)), (11, .int .i64 (x136)), (7, .slice (some ⟨g151, 0, none⟩) L76.length c88), (5, .pointer (some ⟨z31, 0, none⟩)), (0, .int .i64 (x19)), (1, .int .i64 (x6))]) (by kernel_rfl) (by kernel_rfl) (by kernel_rfl) (by kernel_rfl) (fun _ _ _ h => h) ⟨_, hS153⟩ ?_
            intro a159 hF158; clear hF156
            refine any_take 3 (.int .i64 (IntKind.i64.wrap (x6 - 1))) hF158 rfl (by kernel_rfl) rfl (by kernel_rfl) (fun w hw => by kernel_rfl) (l' := [(71, .int .i64 (IntKind.i64.wrap (x6 - 1))), (70, .int .i64 (x6)), (69, .slice (some ⟨g151, 0, none⟩) L76.length c88), (68, .pointer (some ⟨z31, 0, none⟩)), (11, .int .i64 (x136)), (7, .slice (some ⟨g151, 0, none⟩) L76.length c88), (5, .pointer (some ⟨z31, 0, none⟩)), (0, .int .i64 (x19)), (1, .int .i64 (x6))]) (by kernel_rfl) (by kernel_rfl) (by kernel_rfl) (by kernel_rfl) (fun _ _ _ h => h) ⟨_, hS153⟩ ?_
            intro a161 hF160; clear hF158
            refine any_take 4 (.pointer (some ⟨g151, (IntKind.i64.wrap (x6 - 1)).toNat, none⟩)) hF160 rfl (by kernel_rfl) rfl (by kernel_rfl) (fun w hw => run_idx rfl rfl rfl rfl rfl (inR_spec hc149).1 (inR_spec hc149).2 _) (l' := [(72, .pointer (some ⟨g151, (IntKind.i64.wrap (x6 - 1)).toNat, none⟩)), (71, .int .i64 (IntKind.i64.wrap (x6 - 1))), (70, .int .i64 (x6)), (69, .slice (some ⟨g151, 0, none⟩) L76.length c88), (68, .pointer (some ⟨z31, 0, none⟩)), (11, .int .i64 (x136)), (7, .slice (some ⟨g151, 0, none⟩) L76.length c88), (5, .pointer (some ⟨z31, 0, none⟩)), (0, .int .i64 (x19)), (1, .int .i64 (x6))]) (by kernel_rfl) (by kernel_rfl) (by kernel_rfl) (by kernel_rfl) (fun _ _ _ h => h) ⟨_, hS153⟩ ?_
            intro a163 hF162; clear hF160
            refine any_take 5 (.int .i64 (atI L76 (IntKind.i64.wrap (x6 - 1)))) hF162 rfl (by kernel_rfl) rfl (by kernel_rfl) (fun w hw => run_load1 rfl rfl rfl (hw.elim fun qs hw => hw.atI 0 rfl hc149)) (l' := [(73, .int .i64 (atI L76 (IntKind.i64.wrap (x6 - 1)))), (72, .pointer (some ⟨g151, (IntKind.i64.wrap (x6 - 1)).toNat, none⟩)), (71, .int .i64 (IntKind.i64.wrap (x6 - 1))), (70, .int .i64 (x6)), (69, .slice (some ⟨g151, 0, none⟩) L76.length c88), (68, .pointer (some ⟨z31, 0, none⟩)), (11, .int .i64 (x136)), (7, .slice (some ⟨g151, 0, none⟩) L76.length c88), (5, .pointer (some ⟨z31, 0, none⟩)), (0, .int .i64 (x19)), (1, .int .i64 (x6))]) (by kernel_rfl) (by kernel_rfl) (by kernel_rfl) (by kernel_rfl) (fun _ _ _ h => h) ⟨_, hS153⟩ ?_
            intro a165 hF164; clear hF162
            refine any_take 6 (.int .i64 (x136)) hF164 rfl (by kernel_rfl) rfl (by kernel_rfl) (fun w hw => by kernel_rfl) (l' := [(74, .int .i64 (x136)), (73, .int .i64 (atI L76 (IntKind.i64.wrap (x6 - 1)))), (72, .pointer (some ⟨g151, (IntKind.i64.wrap (x6 - 1)).toNat, none⟩)), (71, .int .i64 (IntKind.i64.wrap (x6 - 1))), (70, .int .i64 (x6)), (69, .slice (some ⟨g151, 0, none⟩) L76.length c88), (68, .pointer (some ⟨z31, 0, none⟩)), (11, .int .i64 (x136)), (7, .slice (some ⟨g151, 0, none⟩) L76.length c88), (5, .pointer (some ⟨z31, 0, none⟩)), (0, .int .i64 (x19)), (1, .int .i64 (x6))]) (by kernel_rfl) (by kernel_rfl) (by kernel_rfl) (by kernel_rfl) (fun _ _ _ h => h) ⟨_, hS153⟩ ?_
            intro a167 hF166; clear hF164
            refine any_call 7 36 #[.int .i64 (x136)] hF166 rfl (by kernel_rfl) rfl rfl (by kernel_rfl) rfl (by kernel_rfl) (fun w => by kernel_rfl) ?_
            refine (p_rPtr hS153).mono ?_
            rintro _ w168 ⟨rfl, hS170⟩; clear hS153
            refine ⟨⟨_, hS170⟩, ?_⟩
            intro a169 hF171; clear hF166
            have hF172 : Fr 167 a169 [(75, .int .i64 (wrap64 (wrap64 (x136 * 2) + 1))), (74, .int .i64 (x136)), (73, .int .i64 (atI L76 (IntKind.i64.wrap (x6 - 1)))), (72, .pointer (some ⟨g151, (IntKind.i64.wrap (x6 - 1)).toNat, none⟩)), (71, .int .i64 (IntKind.i64.wrap (x6 - 1))), (70, .int .i64 (x6)), (69, .slice (some ⟨g151, 0, none⟩) L76.length c88), (68, .pointer (some ⟨z31, 0, none⟩)), (11, .int .i64 (x136)), (7, .slice (some ⟨g151, 0, none⟩) L76.length c88), (5, .pointer (some ⟨z31, 0, none⟩)), (0, .int .i64 (x19)), (1, .int .i64 (x6))] := hF171
            clear hF171
            have hS173 : St w0 F0 (HeapP z31 z32 s138 :: RowP (.slice (some ⟨g151, 0, none⟩) L76.length c88) L76 :: ps) w168 := St.ordP [RowP (.slice (some ⟨g151, 0, none⟩) L76.length c88) L76, HeapP z31 z32 s138] ps hS170 [1, 0] [] (by kernel_rfl)
            clear hS170
            refine any_call 8 35 #[.pointer (some ⟨z31, 0, none⟩), .int .i64 (atI L76 (IntKind.i64.wrap (x6 - 1))), .int .i64 0, .int .i64 (wrap64 (wrap64 (x136 * 2) + 1))] hF172 rfl (by kernel_rfl) rfl rfl (by kernel_rfl) rfl (by kernel_rfl) (fun w => by kernel_rfl) ?_
            obtain ⟨x174, s175, hx176, hm177⟩ := bind2E hm150; clear hm150
            refine (p_Store hS173 hx176).mono ?_
            rintro _ w178 ⟨rfl, hS180⟩; clear hS173
            refine ⟨⟨_, St.ordP [HeapP z31 z32 s175, RowP (.slice (some ⟨g151, 0, none⟩) L76.length c88) L76] ps hS180 [1, 0] [] (by kernel_rfl)⟩, ?_⟩
            intro a179 hF181; clear hF172
            have hF182 : Fr 167 a179 [(76, .int .i64 (x174)), (75, .int .i64 (wrap64 (wrap64 (x136 * 2) + 1))), (74, .int .i64 (x136)), (73, .int .i64 (atI L76 (IntKind.i64.wrap (x6 - 1)))), (72, .pointer (some ⟨g151, (IntKind.i64.wrap (x6 - 1)).toNat, none⟩)), (71, .int .i64 (IntKind.i64.wrap (x6 - 1))), (70, .int .i64 (x6)), (69, .slice (some ⟨g151, 0, none⟩) L76.length c88), (68, .pointer (some ⟨z31, 0, none⟩)), (11, .int .i64 (x136)), (7, .slice (some ⟨g151, 0, none⟩) L76.length c88), (5, .pointer (some ⟨z31, 0, none⟩)), (0, .int .i64 (x19)), (1, .int .i64 (x6))] := hF181
            clear hF181
            refine any_done (by kernel_rfl) ?_
            have hF183 : Fr 167 a179 [(11, .int .i64 (x136)), (7, .slice (some ⟨g151, 0, none⟩) L76.length c88), (5, .pointer (some ⟨z31, 0, none⟩)), (0, .int .i64 (x19)), (1, .int .i64 (x6))] := hF182.keep [0, 1, 5, 7, 11]
            clear hF182
            refine thenN ?_
            refine wp_seq ?_
            refine wp_seq ?_
            refine wp_region_lit ?_
            refine ev_runs 1 hF183 (l' := [(13, .int .i64 0), (11, .int .i64 (x136)), (7, .slice (some ⟨g151, 0, none⟩) L76.length c88), (5, .pointer (some ⟨z31, 0, none⟩)), (0, .int .i64 (x19)), (1, .int .i64 (x6))]) (w' := w178) (by kernel_rfl) ?_
            intro a185 hF184; clear hF183
            refine wpList_nil ?_
            refine thenN ?_
            refine wp_block ?_
            refine wp_loop_ghost (fun kI a w => ∃ (s186 : HSt) (x187 : Int), Fr 167 a [(13, .int .i64 (x187)), (11, .int .i64 (x136)), (7, .slice (some ⟨g151, 0, none⟩) L76.length c88), (5, .pointer (some ⟨z31, 0, none⟩)), (0, .int .i64 (x19)), (1, .int .i64 (x6))] ∧ St w0 F0 (HeapP z31 z32 s186 :: RowP (.slice (some ⟨g151, 0, none⟩) L76.length c88) L76 :: ps) w ∧ HeapHides.l2 k x6 x19 L76 x136 kI s186 x187 = some r0) k ⟨s175, 0, hF184, hS180, hm177⟩ ?_
            rintro k188 a189 w190 ⟨s186, x187, hF191, hS192, hm193⟩
            clear hF184 hS180 hm177
            cases k188 with
            | zero => cases hm193
            | succ k188 =>
              have hm194 : HeapHides.l2b k x6 x19 L76 x136 (HeapHides.l2 k x6 x19 L76 x136 k188) s186 x187 = some r0 := hm193
              clear hm193
              unfold HeapHides.l2b at hm194
              refine wp_seq ?_
              refine wp_seq ?_
              refine wp_region_lit ?_
              refine ev_runs 4 hF191 (l' := [(80, .bool (decide ((IntKind.i64.wrap (x187 + 1)) < x6))), (79, .int .i64 (x6)), (78, .int .i64 (IntKind.i64.wrap (x187 + 1))), (77, .int .i64 (x187)), (13, .int .i64 (x187)), (11, .int .i64 (x136)), (7, .slice (some ⟨g151, 0, none⟩) L76.length c88), (5, .pointer (some ⟨z31, 0, none⟩)), (0, .int .i64 (x19)), (1, .int .i64 (x6))]) (w' := w190) (by kernel_rfl) ?_
              intro a196 hF195; clear hF191
              refine wpList_nil ?_
              have hF197 : Fr 167 a196 [(80, .bool (decide ((IntKind.i64.wrap (x187 + 1)) < x6))), (13, .int .i64 (x187)), (11, .int .i64 (x136)), (7, .slice (some ⟨g151, 0, none⟩) L76.length c88), (5, .pointer (some ⟨z31, 0, none⟩)), (0, .int .i64 (x19)), (1, .int .i64 (x6))] := hF195.keep [0, 1, 5, 7, 11, 13, 80]
              clear hF195
              refine thenN ?_
              cases hc198 : (decide ((IntKind.i64.wrap (x187 + 1)) < x6)) with
              | true =>
                rw [hc198] at hF197
                rw [hc198] at hm194
                have hm199 := ifT hm194; clear hm194
                refine ev_condT hF197 rfl rfl ?_
                refine wp_skip ?_
                have hF200 : Fr 167 a196 [(13, .int .i64 (x187)), (11, .int .i64 (x136)), (7, .slice (some ⟨g151, 0, none⟩) L76.length c88), (5, .pointer (some ⟨z31, 0, none⟩)), (0, .int .i64 (x19)), (1, .int .i64 (x6))] := hF197.keep [0, 1, 5, 7, 11, 13]
                clear hF197
                refine thenN ?_
                refine wp_seq ?_
                refine wp_block ?_
                -- draws
                cases hc201 : (inR x187 L76.length) with
                | false => rw [hc201] at hm199; cases hm199
                | true =>
                  rw [hc201] at hm199
                  have hm202 := ifT hm199; clear hm199
                  cases hc203 : (inR (IntKind.i64.wrap (x187 + 1)) L76.length) with
                  | false => rw [hc203] at hm202; cases hm202
                  | true =>
                    rw [hc203] at hm202
                    have hm204 := ifT hm202; clear hm202
                    have hS205 : St w0 F0 (RowP (.slice (some ⟨g151, 0, none⟩) L76.length c88) L76 :: HeapP z31 z32 s186 :: ps) w190 := St.ordP [HeapP z31 z32 s186, RowP (.slice (some ⟨g151, 0, none⟩) L76.length c88) L76] ps hS192 [1, 0] [] (by kernel_rfl)
                    clear hS192
                    have hS206 := hS205.drew; clear hS205
                    refine any_start (fun w => ∃ qs, St w0 F0 (RowP (.slice (some ⟨g151, 0, none⟩) L76.length c88) L76 :: qs) w) (by kernel_rfl) ?_
                    refine any_take 0 (.pointer (some ⟨z31, 0, none⟩)) hF200 rfl (by kernel_rfl) rfl (by kernel_rfl) (fun w hw => by kernel_rfl) (l' := [(83, .pointer (some ⟨z31, 0, none⟩)), (13, .int .i64 (x187)), (11, .int .i64 (x136)), (7, .slice (some ⟨g151, 0, none⟩) L76.length c88), (5, .pointer (some ⟨z31, 0, none⟩)), (0, .int .i64 (x19)), (1, .int .i64 (x6))]) (by kernel_rfl) (by kernel_rfl) (by kernel_rfl) (by kernel_rfl) (fun _ _ _ h => h) ⟨_, hS206⟩ ?_
                    intro a208 hF207; clear hF200
                    refine any_take 1 (.slice (some ⟨g151, 0, none⟩) L76.length c88) hF207 rfl (by kernel_rfl) rfl (by kernel_rfl) (fun w hw => by kernel_rfl) (l' := [(84, .slice (some ⟨g151, 0, none⟩) L76.length c88), (83, .pointer (some ⟨z31, 0, none⟩)), (13, .int .i64 (x187)), (11, .int .i64 (x136)), (7, .slice (some ⟨g151, 0, none⟩) L76.length c88), (5, .pointer (some ⟨z31, 0, none⟩)), (0, .int .i64 (x19)), (1, .int .i64 (x6))]) (by kernel_rfl) (by kernel_rfl) (by kernel_rfl) (by kernel_rfl) (fun _ _ _ h => h) ⟨_, hS206⟩ ?_
                    intro a210 hF209; clear hF207
                    refine any_take 2 (.int .i64 (x187)) hF209 rfl (by kernel_rfl) rfl (by kernel_rfl) (fun w hw => by kernel_rfl) (l' := [(85, .int .i64 (x187)), (84, .slice (some ⟨g151, 0, none⟩) L76.length c88), (83, .pointer (some ⟨z31, 0, none⟩)), (13, .int .i64 (x187)), (11, .int .i64 (x136)), (7, .slice (some ⟨g151, 0, none⟩) L76.length c88), (5, .pointer (some ⟨z31, 0, none⟩)), (0, .int .i64 (x19)), (1, .int .i64 (x6))]) (by kernel_rfl) (by kernel_rfl) (by kernel_rfl) (by kernel_rfl) (fun _ _ _ h => h) ⟨_, hS206⟩ ?_
                    intro a212 hF211; clear hF209
                    refine any_take 3 (.pointer (some ⟨g151, x187.toNat, none⟩)) hF211 rfl (by kernel_rfl) rfl (by kernel_rfl) (fun w hw => run_idx rfl rfl rfl rfl rfl (inR_spec hc201).1 (inR_spec hc201).2 _) (l' := [(86, .pointer (some ⟨g151, x187.toNat, none⟩)), (85, .int .i64 (x187)), (84, .slice (some ⟨g151, 0, none⟩) L76.length c88), (83, .pointer (some ⟨z31, 0, none⟩)), (13, .int .i64 (x187)), (11, .int .i64 (x136)), (7, .slice (some ⟨g151, 0, none⟩) L76.length c88), (5, .pointer (some ⟨z31, 0, none⟩)), (0, .int .i64 (x19)), (1, .int .i64 (x6))]) (by kernel_rfl) (by kernel_rfl) (by kernel_rfl) (by kernel_rfl) (fun _ _ _ h => h) ⟨_, hS206⟩ ?_
                    intro a214 hF213; clear hF211
                    refine any_take 4 (.int .i64 (atI L76 x187)) hF213 rfl (by kernel_rfl) rfl (by kernel_rfl) (fun w hw => run_load1 rfl rfl rfl (hw.elim fun qs hw => hw.atI 0 rfl hc201)) (l' := [(87, .int .i64 (atI L76 x187)), (86, .pointer (some ⟨g151, x187.toNat, none⟩)), (85, .int .i64 (x187)), (84, .slice (some ⟨g151, 0, none⟩) L76.length c88), (83, .pointer (some ⟨z31, 0, none⟩)), (13, .int .i64 (x187)), (11, .int .i64 (x136)), (7, .slice (some ⟨g151, 0, none⟩) L76.length c88), (5, .pointer (some ⟨z31, 0, none⟩)), (0, .int .i64 (x19)), (1, .int .i64 (x6))]) (by kernel_rfl) (by kernel_rfl) (by kernel_rfl) (by kernel_rfl) (fun _ _ _ h => h) ⟨_, hS206⟩ ?_
                    intro a216 hF215; clear hF213
                    refine any_take 5 (.slice (some ⟨g151, 0, none⟩) L76.length c88) hF215 rfl (by kernel_rfl) rfl (by kernel_rfl) (fun w hw => by kernel_rfl) (l' := [(88, .slice (some ⟨g151, 0, none⟩) L76.length c88), (87, .int .i64 (atI L76 x187)), (86, .pointer (some ⟨g151, x187.toNat, none⟩)), (85, .int .i64 (x187)), (84, .slice (some ⟨g151, 0, none⟩) L76.length c88), (83, .pointer (some ⟨z31, 0, none⟩)), (13, .int .i64 (x187)), (11, .int .i64 (x136)), (7, .slice (some ⟨g151, 0, none⟩) L76.length c88), (5, .pointer (some ⟨z31, 0, none⟩)), (0, .int .i64 (x19)), (1, .int .i64 (x6))]) (by kernel_rfl) (by kernel_rfl) (by kernel_rfl) (by kernel_rfl) (fun _ _ _ h => h) ⟨_, hS206⟩ ?_
                    intro a218 hF217; clear hF215
                    refine any_take 6 (.int .i64 (x187)) hF217 rfl (by kernel_rfl) rfl (by kernel_rfl) (fun w hw => by kernel_rfl) (l' := [(89, .int .i64 (x187)), (88, .slice (some ⟨g151, 0, none⟩) L76.length c88), (87, .int .i64 (atI L76 x187)), (86, .pointer (some ⟨g151, x187.toNat, none⟩)), (85, .int .i64 (x187)), (84, .slice (some ⟨g151, 0, none⟩) L76.length c88), (83, .pointer (some ⟨z31, 0, none⟩)), (13, .int .i64 (x187)), (11, .int .i64 (x136)), (7, .slice (some ⟨g151, 0, none⟩) L76.length c88), (5, .pointer (some ⟨z31, 0, none⟩)), (0, .int .i64 (x19)), (1, .int .i64 (x6))]) (by kernel_rfl) (by kernel_rfl) (by kernel_rfl) (by kernel_rfl) (fun _ _ _ h => h) ⟨_, hS206⟩ ?_
                    intro a220 hF219; clear hF217
                    refine any_take 7 (.int .i64 (IntKind.i64.wrap (x187 + 1))) hF219 rfl (by kernel_rfl) rfl (by kernel_rfl) (fun w hw => by kernel_rfl) (l' := [(90, .int .i64 (IntKind.i64.wrap (x187 + 1))), (89, .int .i64 (x187)), (88, .slice (some ⟨g151, 0, none⟩) L76.length c88), (87, .int .i64 (atI L76 x187)), (86, .pointer (some ⟨g151, x187.toNat, none⟩)), (85, .int .i64 (x187)), (84, .slice (some ⟨g151, 0, none⟩) L76.length c88), (83, .pointer (some ⟨z31, 0, none⟩)), (13, .int .i64 (x187)), (11, .int .i64 (x136)), (7, .slice (some ⟨g151, 0, none⟩) L76.length c88), (5, .pointer (some ⟨z31, 0, none⟩)), (0, .int .i64 (x19)), (1, .int .i64 (x6))]) (by kernel_rfl) (by kernel_rfl) (by kernel_rfl) (by kernel_rfl) (fun _ _ _ h => h) ⟨_, hS206⟩ ?_
                    intro a222 hF221; clear hF219
                    refine any_take 8 (.pointer (some ⟨g151, (IntKind.i64.wrap (x187 + 1)).toNat, none⟩)) hF221 rfl (by kernel_rfl) rfl (by kernel_rfl) (fun w hw => run_idx rfl rfl rfl rfl rfl (inR_spec hc203).1 (inR_spec hc203).2 _) (l' := [(91, .pointer (some ⟨g151, (IntKind.i64.wrap (x187 + 1)).toNat, none⟩)), (90, .int .i64 (IntKind.i64.wrap (x187 + 1))), (89, .int .i64 (x187)), (88, .slice (some ⟨g151, 0, none⟩) L76.length c88), (87, .int .i64 (atI L76 x187)), (86, .pointer (some ⟨g151, x187.toNat, none⟩)), (85, .int .i64 (x187)), (84, .slice (some ⟨g151, 0, none⟩) L76.length c88), (83, .pointer (some ⟨z31, 0, none⟩)), (13, .int .i64 (x187)), (11, .int .i64 (x136)), (7, .slice (some ⟨g151, 0, none⟩) L76.length c88), (5, .pointer (some ⟨z31, 0, none⟩)), (0, .int .i64 (x19)), (1, .int .i64 (x6))]) (by kernel_rfl) (by kernel_rfl) (by kernel_rfl) (by kernel_rfl) (fun _ _ _ h => h) ⟨_, hS206⟩ ?_
                    intro a224 hF223; clear hF221
                    refine any_take 9 (.int .i64 (atI L76 (IntKind.i64.wrap (x187 + 1)))) hF223 rfl (by kernel_rfl) rfl (by kernel_rfl) (fun w hw => run_load1 rfl rfl rfl (hw.elim fun qs hw => hw.atI 0 rfl hc203)) (l' := [(92, .int .i64 (atI L76 (IntKind.i64.wrap (x187 + 1)))), (91, .pointer (some ⟨g151, (IntKind.i64.wrap (x187 + 1)).toNat, none⟩)), (90, .int .i64 (IntKind.i64.wrap (x187 + 1))), (89, .int .i64 (x187)), (88, .slice (some ⟨g151, 0, none⟩) L76.length c88), (87, .int .i64 (atI L76 x187)), (86, .pointer (some ⟨g151, x187.toNat, none⟩)), (85, .int .i64 (x187)), (84, .slice (some ⟨g151, 0, none⟩) L76.length c88), (83, .pointer (some ⟨z31, 0, none⟩)), (13, .int .i64 (x187)), (11, .int .i64 (x136)), (7, .slice (some ⟨g151, 0, none⟩) L76.length c88), (5, .pointer (some ⟨z31, 0, none⟩)), (0, .int .i64 (x19)), (1, .int .i64 (x6))]) (by kernel_rfl) (by kernel_rfl) (by kernel_rfl) (by kernel_rfl) (fun _ _ _ h => h) ⟨_, hS206⟩ ?_
                    intro a226 hF225; clear hF223
                    refine any_call 10 36 #[.int .i64 (atI L76 (IntKind.i64.wrap (x187 + 1)))] hF225 rfl (by kernel_rfl) rfl rfl (by kernel_rfl) rfl (by kernel_rfl) (fun w => by kernel_rfl) ?_
                    refine (p_rPtr hS206).mono ?_
                    rintro _ w227 ⟨rfl, hS229⟩; clear hS206
                    refine ⟨⟨_, hS229⟩, ?_⟩
                    intro a228 hF230; clear hF225
                    have hF231 : Fr 167 a228 [(93, .int .i64 (wrap64 (wrap64 ((atI L76 (IntKind.i64.wrap (x187 + 1))) * 2) + 1))), (92, .int .i64 (atI L76 (IntKind.i64.wrap (x187 + 1)))), (91, .pointer (some ⟨g151, (IntKind.i64.wrap (x187 + 1)).toNat, none⟩)), (90, .int .i64 (IntKind.i64.wrap (x187 + 1))), (89, .int .i64 (x187)), (88, .slice (some ⟨g151, 0, none⟩) L76.length c88), (87, .int .i64 (atI L76 x187)), (86, .pointer (some ⟨g151, x187.toNat, none⟩)), (85, .int .i64 (x187)), (84, .slice (some ⟨g151, 0, none⟩) L76.length c88), (83, .pointer (some ⟨z31, 0, none⟩)), (13, .int .i64 (x187)), (11, .int .i64 (x136)), (7, .slice (some ⟨g151, 0, none⟩) L76.length c88), (5, .pointer (some ⟨z31, 0, none⟩)), (0, .int .i64 (x19)), (1, .int .i64 (x6))] := hF230
                    clear hF230
                    have hS232 : St w0 F0 (HeapP z31 z32 s186 :: RowP (.slice (some ⟨g151, 0, none⟩) L76.length c88) L76 :: ps) w227 := St.ordP [RowP (.slice (some ⟨g151, 0, none⟩) L76.length c88) L76, HeapP z31 z32 s186] ps hS229 [1, 0] [] (by kernel_rfl)
                    clear hS229
                    refine any_call 11 35 #[.pointer (some ⟨z31, 0, none⟩), .int .i64 (atI L76 x187), .int .i64 0, .int .i64 (wrap64 (wrap64 ((atI L76 (IntKind.i64.wrap (x187 + 1))) * 2) + 1))] hF231 rfl (by kernel_rfl) rfl rfl (by kernel_rfl) rfl (by kernel_rfl) (fun w => by kernel_rfl) ?_
                    obtain ⟨x233, s234, hx235, hm236⟩ := bind2E hm204; clear hm204
                    refine (p_Store hS232 hx235).mono ?_
                    rintro _ w237 ⟨rfl, hS239⟩; clear hS232
                    refine ⟨⟨_, St.ordP [HeapP z31 z32 s234, RowP (.slice (some ⟨g151, 0, none⟩) L76.length c88) L76] ps hS239 [1, 0] [] (by kernel_rfl)⟩, ?_⟩
                    intro a238 hF240; clear hF231
                    have hF241 : Fr 167 a238 [(94, .int .i64 (x233)), (93, .int .i64 (wrap64 (wrap64 ((atI L76 (IntKind.i64.wrap (x187 + 1))) * 2) + 1))), (92, .int .i64 (atI L76 (IntKind.i64.wrap (x187 + 1)))), (91, .pointer (some ⟨g151, (IntKind.i64.wrap (x187 + 1)).toNat, none⟩)), (90, .int .i64 (IntKind.i64.wrap (x187 + 1))), (89, .int .i64 (x187)), (88, .slice (some ⟨g151, 0, none⟩) L76.length c88), (87, .int .i64 (atI L76 x187)), (86, .pointer (some ⟨g151, x187.toNat, none⟩)), (85, .int .i64 (x187)), (84, .slice (some ⟨g151, 0, none⟩) L76.length c88), (83, .pointer (some ⟨z31, 0, none⟩)), (13, .int .i64 (x187)), (11, .int .i64 (x136)), (7, .slice (some ⟨g151, 0, none⟩) L76.length c88), (5, .pointer (some ⟨z31, 0, none⟩)), (0, .int .i64 (x19)), (1, .int .i64 (x6))] := hF240
                    clear hF240
                    refine any_done (by kernel_rfl) ?_
                    have hF242 : Fr 167 a238 [(13, .int .i64 (x187)), (11, .int .i64 (x136)), (7, .slice (some ⟨g151, 0, none⟩) L76.length c88), (5, .pointer (some ⟨z31, 0, none⟩)), (0, .int .i64 (x19)), (1, .int .i64 (x6))] := hF241.keep [0, 1, 5, 7, 11, 13]
                    clear hF241
                    refine blockN ?_
                    refine thenN ?_
                    refine wp_region_lit ?_
                    refine ev_runs 3 hF242 (l' := [(13, .int .i64 (IntKind.i64.wrap (x187 + 1))), (82, .int .i64 (IntKind.i64.wrap (x187 + 1))), (81, .int .i64 (x187)), (11, .int .i64 (x136)), (7, .slice (some ⟨g151, 0, none⟩) L76.length c88), (5, .pointer (some ⟨z31, 0, none⟩)), (0, .int .i64 (x19)), (1, .int .i64 (x6))]) (w' := w237) (by kernel_rfl) ?_
                    intro a244 hF243; clear hF242
                    refine wpList_nil ?_
                    have hF245 : Fr 167 a244 [(13, .int .i64 (IntKind.i64.wrap (x187 + 1))), (11, .int .i64 (x136)), (7, .slice (some ⟨g151, 0, none⟩) L76.length c88), (5, .pointer (some ⟨z31, 0, none⟩)), (0, .int .i64 (x19)), (1, .int .i64 (x6))] := hF243.keep [0, 1, 5, 7, 11, 13]
                    clear hF243
                    exact thenN ⟨k188, Nat.lt_succ_self _, s234, IntKind.i64.wrap (x187 + 1), hF245, hS239, hm236⟩
              | false =>
                rw [hc198] at hF197
                rw [hc198] at hm194
                have hm246 := ifF hm194; clear hm194
                refine ev_condF hF197 rfl rfl ?_
                refine wp_exit ?_
                refine thenE ?_
                refine thenE ?_
                refine blockE ?_
                refine thenN ?_
                refine wp_seq ?_
                refine wp_seq ?_
                refine wp_region_lit ?_
                refine ev_runs 2 hF197 (l' := [(96, .slice (some ⟨g151, 0, none⟩) L76.length c88), (95, .pointer (some ⟨z31, 0, none⟩)), (80, .bool false), (13, .int .i64 (x187)), (11, .int .i64 (x136)), (7, .slice (some ⟨g151, 0, none⟩) L76.length c88), (5, .pointer (some ⟨z31, 0, none⟩)), (0, .int .i64 (x19)), (1, .int .i64 (x6))]) (w' := w190) (by kernel_rfl) ?_
                intro a248 hF247; clear hF197
                cases hc249 : (leR (1 : Int) L76.length) with
                | false => rw [hc249] at hm246; cases hm246
                | true =>
                  rw [hc249] at hm246
                  have hm250 := ifT hm246; clear hm246
                  refine ev_one (.slice (some ⟨g151, 0, none⟩) (1 : Int).toNat c88) w190 hF247 (by kernel_rfl) rfl (by kernel_rfl) (run_sliceHi rfl rfl rfl rfl rfl (leR_spec hc249).1 (by have := leR_spec hc249; have := hS192.cap 1 rfl; omega) _) (l' := [(97, .slice (some ⟨g151, 0, none⟩) (1 : Int).toNat c88), (96, .slice (some ⟨g151, 0, none⟩) L76.length c88), (95, .pointer (some ⟨z31, 0, none⟩)), (80, .bool false), (13, .int .i64 (x187)), (11, .int .i64 (x136)), (7, .slice (some ⟨g151, 0, none⟩) L76.length c88), (5, .pointer (some ⟨z31, 0, none⟩)), (0, .int .i64 (x19)), (1, .int .i64 (x6))]) (by kernel_rfl) ?_
                  intro a252 hF251; clear hF247
                  refine ev_call 23 #[.pointer (some ⟨z31, 0, none⟩), .slice (some ⟨g151, 0, none⟩) (1 : Int).toNat c88] hF251 rfl rfl (by kernel_rfl) rfl (by kernel_rfl) (fun w => by kernel_rfl) ?_
                  obtain ⟨x253, s254, hx255, hm256⟩ := bind2E hm250; clear hm250
                  refine (p_BeginS (leR_nat hc249) hS192 hx255).mono ?_
                  rintro _ w257 ⟨rfl, hS259⟩ a258 hF260; clear hF251 hS192
                  have hF261 : Fr 167 a258 [(98, .int .i64 (x253)), (97, .slice (some ⟨g151, 0, none⟩) (1 : Int).toNat c88), (96, .slice (some ⟨g151, 0, none⟩) L76.length c88), (95, .pointer (some ⟨z31, 0, none⟩)), (80, .bool false), (13, .int .i64 (x187)), (11, .int .i64 (x136)), (7, .slice (some ⟨g151, 0, none⟩) L76.length c88), (5, .pointer (some ⟨z31, 0, none⟩)), (0, .int .i64 (x19)), (1, .int .i64 (x6))] := hF260
                  clear hF260
                  refine ev_runs 1 hF261 (l' := [(99, .bool (x253 != 0)), (98, .int .i64 (x253)), (97, .slice (some ⟨g151, 0, none⟩) (1 : Int).toNat c88), (96, .slice (some ⟨g151, 0, none⟩) L76.length c88), (95, .pointer (some ⟨z31, 0, none⟩)), (80, .bool false), (13, .int .i64 (x187)), (11, .int .i64 (x136)), (7, .slice (some ⟨g151, 0, none⟩) L76.length c88), (5, .pointer (some ⟨z31, 0, none⟩)), (0, .int .i64 (x19)), (1, .int .i64 (x6))]) (w' := w257) (by kernel_rfl) ?_
                  intro a263 hF262; clear hF261
                  refine wpList_nil ?_
                  have hF264 : Fr 167 a263 [(99, .bool (x253 != 0)), (11, .int .i64 (x136)), (7, .slice (some ⟨g151, 0, none⟩) L76.length c88), (5, .pointer (some ⟨z31, 0, none⟩)), (0, .int .i64 (x19)), (1, .int .i64 (x6))] := hF262.keep [0, 1, 5, 7, 11, 99]
                  clear hF262
                  refine thenN ?_
                  cases hc265 : (x253 != 0) with
                  | true =>
                    rw [hc265] at hF264
                    rw [hc265] at hm256
                    have hm266 := ifT hm256; clear hm256
                    refine ev_condT hF264 rfl rfl ?_
                    refine wp_seq ?_
                    refine wp_region_lit ?_
                    refine ev_runs 1 hF264 (l' := [(4, .bool false), (99, .bool true), (11, .int .i64 (x136)), (7, .slice (some ⟨g151, 0, none⟩) L76.length c88), (5, .pointer (some ⟨z31, 0, none⟩)), (0, .int .i64 (x19)), (1, .int .i64 (x6))]) (w' := w257) (by kernel_rfl) ?_
                    intro a268 hF267; clear hF264
                    refine wpList_nil ?_
                    have hF269 : Fr 167 a268 [(4, .bool false)] := hF267.keep [4]
                    clear hF267
                    have hS270 : St w0 F0 (ps) w257 := St.ordP [HeapP z31 z32 s254, RowP (.slice (some ⟨g151, 0, none⟩) L76.length c88) L76] ps hS259 [] [0, 1] (by kernel_rfl)
                    clear hS259
                    refine thenN ?_
                    refine wp_ret ?_
                    refine thenR ?_
                    obtain rfl := Option.some.inj hm266
                    refine ev_ret hF269 [4] (.bool false) rfl rfl rfl ?_
                    exact ⟨rfl, hS270⟩
                  | false =>
                    rw [hc265] at hF264
                    rw [hc265] at hm256
                    have hm272 := ifF hm256; clear hm256
                    refine ev_condF hF264 rfl rfl ?_
                    refine wp_skip ?_
                    have hF273 : Fr 167 a263 [(11, .int .i64 (x136)), (7, .slice (some ⟨g151, 0, none⟩) L76.length c88), (5, .pointer (some ⟨z31, 0, none⟩)), (0, .int .i64 (x19)), (1, .int .i64 (x6))] := hF264.keep [0, 1, 5, 7, 11]
                    clear hF264
                    refine thenN ?_
                    refine wp_seq ?_
                    refine wp_seq ?_
                    refine wp_region_lit ?_
                    refine ev_runs 1 hF273 (l' := [(14, .int .i64 0), (11, .int .i64 (x136)), (7, .slice (some ⟨g151, 0, none⟩) L76.length c88), (5, .pointer (some ⟨z31, 0, none⟩)), (0, .int .i64 (x19)), (1, .int .i64 (x6))]) (w' := w257) (by kernel_rfl) ?_
                    intro a275 hF274; clear hF273
                    refine wpList_nil ?_
                    refine thenN ?_
                    refine wp_block ?_
                    refine wp_loop_ghost (fun kI a w => ∃ (s276 : HSt) (x277 : Int), Fr 167 a [(14, .int .i64 (x277)), (11, .int .i64 (x136)), (7, .slice (some ⟨g151, 0, none⟩) L76.length c88), (5, .pointer (some ⟨z31, 0, none⟩)), (0, .int .i64 (x19)), (1, .int .i64 (x6))] ∧ St w0 F0 (HeapP z31 z32 s276 :: RowP (.slice (some ⟨g151, 0, none⟩) L76.length c88) L76 :: ps) w ∧ HeapHides.l3 k x6 x19 L76 x136 kI s276 x277 = some r0) k ⟨s254, 0, hF274, hS259, hm272⟩ ?_
                    rintro k278 a279 w280 ⟨s276, x277, hF281, hS282, hm283⟩
                    clear hF274 hS259 hm272
                    cases k278 with
                    | zero => cases hm283
                    | succ k278 =>
                      have hm284 : HeapHides.l3b k x6 x19 L76 x136 (HeapHides.l3 k x6 x19 L76 x136 k278) s276 x277 = some r0 := hm283
                      clear hm283
                      unfold HeapHides.l3b at hm284
                      refine wp_seq ?_
                      refine wp_seq ?_
                      refine wp_region_lit ?_
                      refine ev_runs 3 hF281 (l' := [(102, .bool (decide (x277 < x19))), (101, .int .i64 (x19)), (100, .int .i64 (x277)), (14, .int .i64 (x277)), (11, .int .i64 (x136)), (7, .slice (some ⟨g151, 0, none⟩) L76.length c88), (5, .pointer (some ⟨z31, 0, none⟩)), (0, .int .i64 (x19)), (1, .int .i64 (x6))]) (w' := w280) (by kernel_rfl) ?_
                      intro a286 hF285; clear hF281
                      refine wpList_nil ?_
                      have hF287 : Fr 167 a286 [(102, .bool (decide (x277 < x19))), (14, .int .i64 (x277)), (11, .int .i64 (x136)), (7, .slice (some ⟨g151, 0, none⟩) L76.length c88), (5, .pointer (some ⟨z31, 0, none⟩)), (0, .int .i64 (x19)), (1, .int .i64 (x6))] := hF285.keep [0, 1, 5, 7, 11, 14, 102]
                      clear hF285
                      refine thenN ?_
                      cases hc288 : (decide (x277 < x19)) with
                      | true =>
                        rw [hc288] at hF287
                        rw [hc288] at hm284
                        have hm289 := ifT hm284; clear hm284
                        refine ev_condT hF287 rfl rfl ?_
                        refine wp_skip ?_
                        have hF290 : Fr 167 a286 [(14, .int .i64 (x277)), (11, .int .i64 (x136)), (7, .slice (some ⟨g151, 0, none⟩) L76.length c88), (5, .pointer (some ⟨z31, 0, none⟩)), (0, .int .i64 (x19)), (1, .int .i64 (x6))] := hF287.keep [0, 1, 5, 7, 11, 14]
                        clear hF287
                        refine thenN ?_
                        refine wp_seq ?_
                        refine wp_block ?_
                        refine wp_region_lit ?_
                        refine ev_runs 1 hF290 (l' := [(105, .pointer (some ⟨z31, 0, none⟩)), (14, .int .i64 (x277)), (11, .int .i64 (x136)), (7, .slice (some ⟨g151, 0, none⟩) L76.length c88), (5, .pointer (some ⟨z31, 0, none⟩)), (0, .int .i64 (x19)), (1, .int .i64 (x6))]) (w' := w280) (by kernel_rfl) ?_
                        intro a292 hF291; clear hF290
                        refine ev_call 30 #[.pointer (some ⟨z31, 0, none⟩)] hF291 rfl rfl (by kernel_rfl) rfl (by kernel_rfl) (fun w => by kernel_rfl) ?_
                        obtain ⟨L293, s294, hx295, hm296⟩ := bind2E hm289; clear hm289
                        refine (p_Step hS282 hx295).mono ?_
                        rintro _ w297 ⟨z301, rfl, hS299⟩ a298 hF300; clear hF291 hS282
                        obtain ⟨hl306, p303, c304, rfl, hp305⟩ := St.shapeG (k := 1) hS299 rfl
                        have hF307 : Fr 167 a298 [(106, .slice p303 L293.length c304), (105, .pointer (some ⟨z31, 0, none⟩)), (14, .int .i64 (x277)), (11, .int .i64 (x136)), (7, .slice (some ⟨g151, 0, none⟩) L76.length c88), (5, .pointer (some ⟨z31, 0, none⟩)), (0, .int .i64 (x19)), (1, .int .i64 (x6))] := hF300
                        clear hF300
                        refine wpList_nil ?_
                        have hF308 : Fr 167 a298 [(14, .int .i64 (x277)), (11, .int .i64 (x136)), (7, .slice (some ⟨g151, 0, none⟩) L76.length c88), (5, .pointer (some ⟨z31, 0, none⟩)), (0, .int .i64 (x19)), (1, .int .i64 (x6))] := hF307.keep [0, 1, 5, 7, 11, 14]
                        clear hF307
                        have hS309 : St w0 F0 (HeapP z31 z32 s294 :: RowP (.slice (some ⟨g151, 0, none⟩) L76.length c88) L76 :: ps) w297 := St.ordP [HeapP z31 z32 s294, GonesP (.slice p303 L293.length c304) L293, RowP (.slice (some ⟨g151, 0, none⟩) L76.length c88) L76] ps hS299 [0, 2] [1] (by kernel_rfl)
                        clear hS299
                        refine blockN ?_
                        refine thenN ?_
                        refine wp_region_lit ?_
                        refine ev_runs 3 hF308 (l' := [(14, .int .i64 (IntKind.i64.wrap (x277 + 1))), (104, .int .i64 (IntKind.i64.wrap (x277 + 1))), (103, .int .i64 (x277)), (11, .int .i64 (x136)), (7, .slice (some ⟨g151, 0, none⟩) L76.length c88), (5, .pointer (some ⟨z31, 0, none⟩)), (0, .int .i64 (x19)), (1, .int .i64 (x6))]) (w' := w297) (by kernel_rfl) ?_
                        intro a311 hF310; clear hF308
                        refine wpList_nil ?_
                        have hF312 : Fr 167 a311 [(14, .int .i64 (IntKind.i64.wrap (x277 + 1))), (11, .int .i64 (x136)), (7, .slice (some ⟨g151, 0, none⟩) L76.length c88), (5, .pointer (some ⟨z31, 0, none⟩)), (0, .int .i64 (x19)), (1, .int .i64 (x6))] := hF310.keep [0, 1, 5, 7, 11, 14]
                        clear hF310
                        exact thenN ⟨k278, Nat.lt_succ_self _, s294, IntKind.i64.wrap (x277 + 1), hF312, hS309, hm296⟩
                      | false =>
                        rw [hc288] at hF287
                        rw [hc288] at hm284
                        have hm313 := ifF hm284; clear hm284
                        refine ev_condF hF287 rfl rfl ?_
                        refine wp_exit ?_
                        refine thenE ?_
                        refine thenE ?_
                        refine blockE ?_
                        refine thenN ?_
                        refine wp_seq ?_
                        refine wp_region_lit ?_
                        refine ev_runs 4 hF287 (l' := [(111, .int .i64 (IntKind.i64.wrap (x6 - 1))), (110, .int .i64 (x6)), (109, .slice (some ⟨g151, 0, none⟩) L76.length c88), (108, .pointer (some ⟨z31, 0, none⟩)), (102, .bool false), (14, .int .i64 (x277)), (11, .int .i64 (x136)), (7, .slice (some ⟨g151, 0, none⟩) L76.length c88), (5, .pointer (some ⟨z31, 0, none⟩)), (0, .int .i64 (x19)), (1, .int .i64 (x6))]) (w' := w280) (by kernel_rfl) ?_
                        intro a315 hF314; clear hF287
                        cases hc316 : (inR (IntKind.i64.wrap (x6 - 1)) L76.length) with
                        | false => rw [hc316] at hm313; cases hm313
                        | true =>
                          rw [hc316] at hm313
                          have hm317 := ifT hm313; clear hm313
                          refine ev_one (.pointer (some ⟨g151, (IntKind.i64.wrap (x6 - 1)).toNat, none⟩)) w280 hF314 (by kernel_rfl) rfl (by kernel_rfl) (run_idx rfl rfl rfl rfl rfl (inR_spec hc316).1 (inR_spec hc316).2 _) (l' := [(112, .pointer (some ⟨g151, (IntKind.i64.wrap (x6 - 1)).toNat, none⟩)), (111, .int .i64 (IntKind.i64.wrap (x6 - 1))), (110, .int .i64 (x6)), (109, .slice (some ⟨g151, 0, none⟩) L76.length c88), (108, .pointer (some ⟨z31, 0, none⟩)), (102, .bool false), (14, .int .i64 (x277)), (11, .int .i64 (x136)), (7, .slice (some ⟨g151, 0, none⟩) L76.length c88), (5, .pointer (some ⟨z31, 0, none⟩)), (0, .int .i64 (x19)), (1, .int .i64 (x6))]) (by kernel_rfl) ?_
                          intro a319 hF318; clear hF314
                          refine ev_one (.int .i64 (atI L76 (IntKind.i64.wrap (x6 - 1)))) w280 hF318 (by kernel_rfl) rfl (by kernel_rfl) (run_load1 rfl rfl rfl (hS282.atI 1 rfl hc316)) (l' := [(113, .int .i64 (atI L76 (IntKind.i64.wrap (x6 - 1)))), (112, .pointer (some ⟨g151, (IntKind.i64.wrap (x6 - 1)).toNat, none⟩)), (111, .int .i64 (IntKind.i64.wrap (x6 - 1))), (110, .int .i64 (x6)), (109, .slice (some ⟨g151, 0, none⟩) L76.length c88), (108, .pointer (some ⟨z31, 0, none⟩)), (102, .bool false), (14, .int .i64 (x277)), (11, .int .i64 (x136)), (7, .slice (some ⟨g151, 0, none⟩) L76.length c88), (5, .pointer (some ⟨z31, 0, none⟩)), (0, .int .i64 (x19)), (1, .int .i64 (x6))]) (by kernel_rfl) ?_
                          intro a321 hF320; clear hF318
                          refine ev_call 15 #[.pointer (some ⟨z31, 0, none⟩), .int .i64 (atI L76 (IntKind.i64.wrap (x6 - 1))), .int .i64 0] hF320 rfl rfl (by kernel_rfl) rfl (by kernel_rfl) (fun w => by kernel_rfl) ?_
                          obtain ⟨x322, x323, hx324, hm325⟩ := bind2E hm317; clear hm317
                          refine (p_Load hS282 hx324).mono ?_
                          rintro _ w326 ⟨rfl, hS328⟩ a327 hF329; clear hF320 hS282
                          have hF330 : Fr 167 a327 [(114, .tuple #[.int .i64 (x322), .int .i64 (x323)]), (113, .int .i64 (atI L76 (IntKind.i64.wrap (x6 - 1)))), (112, .pointer (some ⟨g151, (IntKind.i64.wrap (x6 - 1)).toNat, none⟩)), (111, .int .i64 (IntKind.i64.wrap (x6 - 1))), (110, .int .i64 (x6)), (109, .slice (some ⟨g151, 0, none⟩) L76.length c88), (108, .pointer (some ⟨z31, 0, none⟩)), (102, .bool false), (14, .int .i64 (x277)), (11, .int .i64 (x136)), (7, .slice (some ⟨g151, 0, none⟩) L76.length c88), (5, .pointer (some ⟨z31, 0, none⟩)), (0, .int .i64 (x19)), (1, .int .i64 (x6))] := hF329
                          clear hF329
                          refine ev_runs 5 hF330 (l' := [(16, .int .i64 (x323)), (15, .int .i64 (x322)), (116, .int .i64 (x323)), (115, .int .i64 (x322)), (107, .tuple #[.int .i64 (x322), .int .i64 (x323)]), (114, .tuple #[.int .i64 (x322), .int .i64 (x323)]), (113, .int .i64 (atI L76 (IntKind.i64.wrap (x6 - 1)))), (112, .pointer (some ⟨g151, (IntKind.i64.wrap (x6 - 1)).toNat, none⟩)), (111, .int .i64 (IntKind.i64.wrap (x6 - 1))), (110, .int .i64 (x6)), (109, .slice (some ⟨g151, 0, none⟩) L76.length c88), (108, .pointer (some ⟨z31, 0, none⟩)), (102, .bool false), (14, .int .i64 (x277)), (11, .int .i64 (x136)), (7, .slice (some ⟨g151, 0, none⟩) L76.length c88), (5, .pointer (some ⟨z31, 0, none⟩)), (0, .int .i64 (x19)), (1, .int .i64 (x6))]) (w' := w326) (by kernel_rfl) ?_
                          intro a332 hF331; clear hF330
                          refine wpList_nil ?_
                          have hF333 : Fr 167 a332 [(16, .int .i64 (x323)), (15, .int .i64 (x322)), (11, .int .i64 (x136)), (7, .slice (some ⟨g151, 0, none⟩) L76.length c88), (5, .pointer (some ⟨z31, 0, none⟩)), (1, .int .i64 (x6))] := hF331.keep [1, 5, 7, 11, 15, 16]
                          clear hF331
                          refine thenN ?_
                          refine wp_seq ?_
                          refine wp_seq ?_
                          refine wp_region_lit ?_
                          refine ev_runs 3 hF333 (l' := [(119, .bool (x323 != 0)), (118, .bool (x323 != 0)), (117, .int .i64 (x323)), (16, .int .i64 (x323)), (15, .int .i64 (x322)), (11, .int .i64 (x136)), (7, .slice (some ⟨g151, 0, none⟩) L76.length c88), (5, .pointer (some ⟨z31, 0, none⟩)), (1, .int .i64 (x6))]) (w' := w326) (by kernel_rfl) ?_
                          intro a335 hF334; clear hF333
                          cases hc336 : (x323 != 0) with
                          | true =>
                            rw [hc336] at hF334
                            rw [hc336] at hm325
                            have hm337 := ifT hm325; clear hm325
                            refine ev_runs 4 hF334 (l' := [(123, .bool true), (122, .tuple #[]), (121, .tuple #[]), (120, .tuple #[]), (119, .bool true), (118, .bool true), (117, .int .i64 (x323)), (16, .int .i64 (x323)), (15, .int .i64 (x322)), (11, .int .i64 (x136)), (7, .slice (some ⟨g151, 0, none⟩) L76.length c88), (5, .pointer (some ⟨z31, 0, none⟩)), (1, .int .i64 (x6))]) (w' := w326) (by kernel_rfl) ?_
                            intro a339 hF338; clear hF334
                            refine wpList_nil ?_
                            have hF340 : Fr 167 a339 [(123, .bool true), (15, .int .i64 (x322)), (11, .int .i64 (x136)), (7, .slice (some ⟨g151, 0, none⟩) L76.length c88), (5, .pointer (some ⟨z31, 0, none⟩)), (1, .int .i64 (x6))] := hF338.keep [1, 5, 7, 11, 15, 123]
                            clear hF338
                            refine thenN ?_
                            refine ev_condT hF340 rfl rfl ?_
                            refine wp_seq ?_
                            refine wp_region_lit ?_
                            refine ev_runs 1 hF340 (l' := [(4, .bool false), (123, .bool true), (15, .int .i64 (x322)), (11, .int .i64 (x136)), (7, .slice (some ⟨g151, 0, none⟩) L76.length c88), (5, .pointer (some ⟨z31, 0, none⟩)), (1, .int .i64 (x6))]) (w' := w326) (by kernel_rfl) ?_
                            intro a342 hF341; clear hF340
                            refine wpList_nil ?_
                            have hF343 : Fr 167 a342 [(4, .bool false)] := hF341.keep [4]
                            clear hF341
                            have hS344 : St w0 F0 (ps) w326 := St.ordP [HeapP z31 z32 s276, RowP (.slice (some ⟨g151, 0, none⟩) L76.length c88) L76] ps hS328 [] [0, 1] (by kernel_rfl)
                            clear hS328
                            refine thenN ?_
                            refine wp_ret ?_
                            refine thenR ?_
                            obtain rfl := Option.some.inj hm337
                            refine ev_ret hF343 [4] (.bool false) rfl rfl rfl ?_
                            exact ⟨rfl, hS344⟩
                          | false =>
                            rw [hc336] at hF334
                            rw [hc336] at hm325
                            have hm346 := ifF hm325; clear hm325
                            refine ev_runs 1 hF334 (l' := [(120, .pointer (some ⟨z31, 0, none⟩)), (119, .bool false), (118, .bool false), (117, .int .i64 (x323)), (16, .int .i64 (x323)), (15, .int .i64 (x322)), (11, .int .i64 (x136)), (7, .slice (some ⟨g151, 0, none⟩) L76.length c88), (5, .pointer (some ⟨z31, 0, none⟩)), (1, .int .i64 (x6))]) (w' := w326) (by kernel_rfl) ?_
                            intro a348 hF347; clear hF334
                            refine ev_call 31 #[.pointer (some ⟨z31, 0, none⟩)] hF347 rfl rfl (by kernel_rfl) rfl (by kernel_rfl) (fun w => by kernel_rfl) ?_
                            refine (p_Phase hS328).mono ?_
                            rintro _ w349 ⟨rfl, hS351⟩ a350 hF352; clear hF347 hS328
                            have hF353 : Fr 167 a350 [(121, .int .i64 (s276.ph)), (120, .pointer (some ⟨z31, 0, none⟩)), (119, .bool false), (118, .bool false), (117, .int .i64 (x323)), (16, .int .i64 (x323)), (15, .int .i64 (x322)), (11, .int .i64 (x136)), (7, .slice (some ⟨g151, 0, none⟩) L76.length c88), (5, .pointer (some ⟨z31, 0, none⟩)), (1, .int .i64 (x6))] := hF352
                            clear hF352
                            refine ev_runs 2 hF353 (l' := [(123, .bool (s276.ph != 1)), (122, .bool (s276.ph != 1)), (121, .int .i64 (s276.ph)), (120, .pointer (some ⟨z31, 0, none⟩)), (119, .bool false), (118, .bool false), (117, .int .i64 (x323)), (16, .int .i64 (x323)), (15, .int .i64 (x322)), (11, .int .i64 (x136)), (7, .slice (some ⟨g151, 0, none⟩) L76.length c88), (5, .pointer (some ⟨z31, 0, none⟩)), (1, .int .i64 (x6))]) (w' := w349) (by kernel_rfl) ?_
                            intro a355 hF354; clear hF353
                            refine wpList_nil ?_
                            have hF356 : Fr 167 a355 [(123, .bool (s276.ph != 1)), (15, .int .i64 (x322)), (11, .int .i64 (x136)), (7, .slice (some ⟨g151, 0, none⟩) L76.length c88), (5, .pointer (some ⟨z31, 0, none⟩)), (1, .int .i64 (x6))] := hF354.keep [1, 5, 7, 11, 15, 123]
                            clear hF354
                            refine thenN ?_
                            cases hc357 : (s276.ph != 1) with
                            | true =>
                              rw [hc357] at hF356
                              rw [hc357] at hm346
                              have hm358 := ifT hm346; clear hm346
                              refine ev_condT hF356 rfl rfl ?_
                              refine wp_seq ?_
                              refine wp_region_lit ?_
                              refine ev_runs 1 hF356 (l' := [(4, .bool false), (123, .bool true), (15, .int .i64 (x322)), (11, .int .i64 (x136)), (7, .slice (some ⟨g151, 0, none⟩) L76.length c88), (5, .pointer (some ⟨z31, 0, none⟩)), (1, .int .i64 (x6))]) (w' := w349) (by kernel_rfl) ?_
                              intro a360 hF359; clear hF356
                              refine wpList_nil ?_
                              have hF361 : Fr 167 a360 [(4, .bool false)] := hF359.keep [4]
                              clear hF359
                              have hS362 : St w0 F0 (ps) w349 := St.ordP [HeapP z31 z32 s276, RowP (.slice (some ⟨g151, 0, none⟩) L76.length c88) L76] ps hS351 [] [0, 1] (by kernel_rfl)
                              clear hS351
                              refine thenN ?_
                              refine wp_ret ?_
                              refine thenR ?_
                              obtain rfl := Option.some.inj hm358
                              refine ev_ret hF361 [4] (.bool false) rfl rfl rfl ?_
                              exact ⟨rfl, hS362⟩
                            | false =>
                              rw [hc357] at hF356
                              rw [hc357] at hm346
                              have hm364 := ifF hm346; clear hm346
                              refine ev_condF hF356 rfl rfl ?_
                              refine wp_skip ?_
                              have hF365 : Fr 167 a355 [(15, .int .i64 (x322)), (11, .int .i64 (x136)), (7, .slice (some ⟨g151, 0, none⟩) L76.length c88), (5, .pointer (some ⟨z31, 0, none⟩)), (1, .int .i64 (x6))] := hF356.keep [1, 5, 7, 11, 15]
                              clear hF356
                              refine thenN ?_
                              refine wp_seq ?_
                              refine wp_region_lit ?_
                              refine ev_runs 2 hF365 (l' := [(125, .slice (some ⟨g151, 0, none⟩) L76.length c88), (124, .pointer (some ⟨z31, 0, none⟩)), (15, .int .i64 (x322)), (11, .int .i64 (x136)), (7, .slice (some ⟨g151, 0, none⟩) L76.length c88), (5, .pointer (some ⟨z31, 0, none⟩)), (1, .int .i64 (x6))]) (w' := w349) (by kernel_rfl) ?_
                              intro a367 hF366; clear hF365
                              cases hc368 : (inR (0 : Int) L76.length) with
                              | false => rw [hc368] at hm364; cases hm364
                              | true =>
                                rw [hc368] at hm364
                                have hm369 := ifT hm364; clear hm364
                                refine ev_one (.pointer (some ⟨g151, (0 : Int).toNat, none⟩)) w349 hF366 (by kernel_rfl) rfl (by kernel_rfl) (run_idx rfl rfl rfl rfl rfl (inR_spec hc368).1 (inR_spec hc368).2 _) (l' := [(126, .pointer (some ⟨g151, (0 : Int).toNat, none⟩)), (125, .slice (some ⟨g151, 0, none⟩) L76.length c88), (124, .pointer (some ⟨z31, 0, none⟩)), (15, .int .i64 (x322)), (11, .int .i64 (x136)), (7, .slice (some ⟨g151, 0, none⟩) L76.length c88), (5, .pointer (some ⟨z31, 0, none⟩)), (1, .int .i64 (x6))]) (by kernel_rfl) ?_
                                intro a371 hF370; clear hF366
                                refine ev_one (.int .i64 (atI L76 (0 : Int))) w349 hF370 (by kernel_rfl) rfl (by kernel_rfl) (run_load1 rfl rfl rfl (hS351.atI 1 rfl hc368)) (l' := [(127, .int .i64 (atI L76 (0 : Int))), (126, .pointer (some ⟨g151, (0 : Int).toNat, none⟩)), (125, .slice (some ⟨g151, 0, none⟩) L76.length c88), (124, .pointer (some ⟨z31, 0, none⟩)), (15, .int .i64 (x322)), (11, .int .i64 (x136)), (7, .slice (some ⟨g151, 0, none⟩) L76.length c88), (5, .pointer (some ⟨z31, 0, none⟩)), (1, .int .i64 (x6))]) (by kernel_rfl) ?_
                                intro a373 hF372; clear hF370
                                refine ev_runs 1 hF372 (l' := [(128, .int .i64 (x322)), (127, .int .i64 (atI L76 (0 : Int))), (126, .pointer (some ⟨g151, (0 : Int).toNat, none⟩)), (125, .slice (some ⟨g151, 0, none⟩) L76.length c88), (124, .pointer (some ⟨z31, 0, none⟩)), (15, .int .i64 (x322)), (11, .int .i64 (x136)), (7, .slice (some ⟨g151, 0, none⟩) L76.length c88), (5, .pointer (some ⟨z31, 0, none⟩)), (1, .int .i64 (x6))]) (w' := w349) (by kernel_rfl) ?_
                                intro a375 hF374; clear hF372
                                refine ev_call 35 #[.pointer (some ⟨z31, 0, none⟩), .int .i64 (atI L76 (0 : Int)), .int .i64 0, .int .i64 (x322)] hF374 rfl rfl (by kernel_rfl) rfl (by kernel_rfl) (fun w => by kernel_rfl) ?_
                                obtain ⟨x376, s377, hx378, hm379⟩ := bind2E hm369; clear hm369
                                refine (p_Store hS351 hx378).mono ?_
                                rintro _ w380 ⟨rfl, hS382⟩ a381 hF383; clear hF374 hS351
                                have hF384 : Fr 167 a381 [(129, .int .i64 (x376)), (128, .int .i64 (x322)), (127, .int .i64 (atI L76 (0 : Int))), (126, .pointer (some ⟨g151, (0 : Int).toNat, none⟩)), (125, .slice (some ⟨g151, 0, none⟩) L76.length c88), (124, .pointer (some ⟨z31, 0, none⟩)), (15, .int .i64 (x322)), (11, .int .i64 (x136)), (7, .slice (some ⟨g151, 0, none⟩) L76.length c88), (5, .pointer (some ⟨z31, 0, none⟩)), (1, .int .i64 (x6))] := hF383
                                clear hF383
                                refine wpList_nil ?_
                                have hF385 : Fr 167 a381 [(11, .int .i64 (x136)), (7, .slice (some ⟨g151, 0, none⟩) L76.length c88), (5, .pointer (some ⟨z31, 0, none⟩)), (1, .int .i64 (x6))] := hF384.keep [1, 5, 7, 11]
                                clear hF384
                                refine thenN ?_
                                refine wp_seq ?_
                                refine wp_region_lit ?_
                                refine ev_runs 4 hF385 (l' := [(133, .int .i64 (IntKind.i64.wrap (x6 - 1))), (132, .int .i64 (x6)), (131, .slice (some ⟨g151, 0, none⟩) L76.length c88), (130, .pointer (some ⟨z31, 0, none⟩)), (11, .int .i64 (x136)), (7, .slice (some ⟨g151, 0, none⟩) L76.length c88), (5, .pointer (some ⟨z31, 0, none⟩)), (1, .int .i64 (x6))]) (w' := w380) (by kernel_rfl) ?_
                                intro a387 hF386; clear hF385
                                refine ev_one (.pointer (some ⟨g151, (IntKind.i64.wrap (x6 - 1)).toNat, none⟩)) w380 hF386 (by kernel_rfl) rfl (by kernel_rfl) (run_idx rfl rfl rfl rfl rfl (inR_spec hc316).1 (inR_spec hc316).2 _) (l' := [(134, .pointer (some ⟨g151, (IntKind.i64.wrap (x6 - 1)).toNat, none⟩)), (133, .int .i64 (IntKind.i64.wrap (x6 - 1))), (132, .int .i64 (x6)), (131, .slice (some ⟨g151, 0, none⟩) L76.length c88), (130, .pointer (some ⟨z31, 0, none⟩)), (11, .int .i64 (x136)), (7, .slice (some ⟨g151, 0, none⟩) L76.length c88), (5, .pointer (some ⟨z31, 0, none⟩)), (1, .int .i64 (x6))]) (by kernel_rfl) ?_
                                intro a389 hF388; clear hF386
                                refine ev_one (.int .i64 (atI L76 (IntKind.i64.wrap (x6 - 1)))) w380 hF388 (by kernel_rfl) rfl (by kernel_rfl) (run_load1 rfl rfl rfl (hS382.atI 1 rfl hc316)) (l' := [(135, .int .i64 (atI L76 (IntKind.i64.wrap (x6 - 1)))), (134, .pointer (some ⟨g151, (IntKind.i64.wrap (x6 - 1)).toNat, none⟩)), (133, .int .i64 (IntKind.i64.wrap (x6 - 1))), (132, .int .i64 (x6)), (131, .slice (some ⟨g151, 0, none⟩) L76.length c88), (130, .pointer (some ⟨z31, 0, none⟩)), (11, .int .i64 (x136)), (7, .slice (some ⟨g151, 0, none⟩) L76.length c88), (5, .pointer (some ⟨z31, 0, none⟩)), (1, .int .i64 (x6))]) (by kernel_rfl) ?_
                                intro a391 hF390; clear hF388
                                refine ev_call 35 #[.pointer (some ⟨z31, 0, none⟩), .int .i64 (atI L76 (IntKind.i64.wrap (x6 - 1))), .int .i64 0, .int .i64 0] hF390 rfl rfl (by kernel_rfl) rfl (by kernel_rfl) (fun w => by kernel_rfl) ?_
                                obtain ⟨x392, s393, hx394, hm395⟩ := bind2E hm379; clear hm379
                                refine (p_Store hS382 hx394).mono ?_
                                rintro _ w396 ⟨rfl, hS398⟩ a397 hF399; clear hF390 hS382
                                have hF400 : Fr 167 a397 [(136, .int .i64 (x392)), (135, .int .i64 (atI L76 (IntKind.i64.wrap (x6 - 1)))), (134, .pointer (some ⟨g151, (IntKind.i64.wrap (x6 - 1)).toNat, none⟩)), (133, .int .i64 (IntKind.i64.wrap (x6 - 1))), (132, .int .i64 (x6)), (131, .slice (some ⟨g151, 0, none⟩) L76.length c88), (130, .pointer (some ⟨z31, 0, none⟩)), (11, .int .i64 (x136)), (7, .slice (some ⟨g151, 0, none⟩) L76.length c88), (5, .pointer (some ⟨z31, 0, none⟩)), (1, .int .i64 (x6))] := hF399
                                clear hF399
                                refine wpList_nil ?_
                                have hF401 : Fr 167 a397 [(11, .int .i64 (x136)), (7, .slice (some ⟨g151, 0, none⟩) L76.length c88), (5, .pointer (some ⟨z31, 0, none⟩))] := hF400.keep [5, 7, 11]
                                clear hF400
                                refine thenN ?_
                                refine wp_seq ?_
                                refine wp_seq ?_
                                refine wp_region_lit ?_
                                refine ev_runs 1 hF401 (l' := [(17, .int .i64 0), (11, .int .i64 (x136)), (7, .slice (some ⟨g151, 0, none⟩) L76.length c88), (5, .pointer (some ⟨z31, 0, none⟩))]) (w' := w396) (by kernel_rfl) ?_
                                intro a403 hF402; clear hF401
                                refine wpList_nil ?_
                                refine thenN ?_
                                refine wp_block ?_
                                refine wp_loop_ghost (fun kI a w => ∃ (s404 : HSt) (x405 : Int), Fr 167 a [(17, .int .i64 (x405)), (11, .int .i64 (x136)), (7, .slice (some ⟨g151, 0, none⟩) L76.length c88), (5, .pointer (some ⟨z31, 0, none⟩))] ∧ St w0 F0 (HeapP z31 z32 s404 :: RowP (.slice (some ⟨g151, 0, none⟩) L76.length c88) L76 :: ps) w ∧ HeapHides.l4 L76 x136 kI s404 x405 = some r0) k ⟨s393, 0, hF402, hS398, hm395⟩ ?_
                                rintro k406 a407 w408 ⟨s404, x405, hF409, hS410, hm411⟩
                                clear hF402 hS398 hm395
                                cases k406 with
                                | zero => cases hm411
                                | succ k406 =>
                                  have hm412 : HeapHides.l4b L76 x136 (HeapHides.l4 L76 x136 k406) s404 x405 = some r0 := hm411
                                  clear hm411
                                  unfold HeapHides.l4b at hm412
                                  refine wp_seq ?_
                                  refine wp_seq ?_
                                  refine wp_region_lit ?_
                                  refine ev_runs 3 hF409 (l' := [(139, .bool (decide (x405 < 200))), (138, .bool (decide (x405 < 200))), (137, .int .i64 (x405)), (17, .int .i64 (x405)), (11, .int .i64 (x136)), (7, .slice (some ⟨g151, 0, none⟩) L76.length c88), (5, .pointer (some ⟨z31, 0, none⟩))]) (w' := w408) (by kernel_rfl) ?_
                                  intro a414 hF413; clear hF409
                                  cases hc415 : (decide (x405 < 200)) with
                                  | true =>
                                    rw [hc415] at hF413
                                    rw [hc415] at hm412
                                    have hm416 := ifT hm412; clear hm412
                                    refine ev_runs 1 hF413 (l' := [(140, .pointer (some ⟨z31, 0, none⟩)), (139, .bool true), (138, .bool true), (137, .int .i64 (x405)), (17, .int .i64 (x405)), (11, .int .i64 (x136)), (7, .slice (some ⟨g151, 0, none⟩) L76.length c88), (5, .pointer (some ⟨z31, 0, none⟩))]) (w' := w408) (by kernel_rfl) ?_
                                    intro a418 hF417; clear hF413
                                    refine ev_call 31 #[.pointer (some ⟨z31, 0, none⟩)] hF417 rfl rfl (by kernel_rfl) rfl (by kernel_rfl) (fun w => by kernel_rfl) ?_
                                    refine (p_Phase hS410).mono ?_
                                    rintro _ w419 ⟨rfl, hS421⟩ a420 hF422; clear hF417 hS410
                                    have hF423 : Fr 167 a420 [(141, .int .i64 (s404.ph)), (140, .pointer (some ⟨z31, 0, none⟩)), (139, .bool true), (138, .bool true), (137, .int .i64 (x405)), (17, .int .i64 (x405)), (11, .int .i64 (x136)), (7, .slice (some ⟨g151, 0, none⟩) L76.length c88), (5, .pointer (some ⟨z31, 0, none⟩))] := hF422
                                    clear hF422
                                    refine ev_runs 2 hF423 (l' := [(143, .bool (s404.ph != 0)), (142, .bool (s404.ph != 0)), (141, .int .i64 (s404.ph)), (140, .pointer (some ⟨z31, 0, none⟩)), (139, .bool true), (138, .bool true), (137, .int .i64 (x405)), (17, .int .i64 (x405)), (11, .int .i64 (x136)), (7, .slice (some ⟨g151, 0, none⟩) L76.length c88), (5, .pointer (some ⟨z31, 0, none⟩))]) (w' := w419) (by kernel_rfl) ?_
                                    intro a425 hF424; clear hF423
                                    refine wpList_nil ?_
                                    have hF426 : Fr 167 a425 [(143, .bool (s404.ph != 0)), (142, .bool (s404.ph != 0)), (141, .int .i64 (s404.ph)), (140, .pointer (some ⟨z31, 0, none⟩)), (17, .int .i64 (x405)), (11, .int .i64 (x136)), (7, .slice (some ⟨g151, 0, none⟩) L76.length c88), (5, .pointer (some ⟨z31, 0, none⟩))] := hF424.keep [5, 7, 11, 17, 140, 141, 142, 143]
                                    clear hF424
                                    refine thenN ?_
                                    cases hc427 : (s404.ph != 0) with
                                    | true =>
                                      rw [hc427] at hF426
                                      rw [hc427] at hm416
                                      have hm428 := ifT hm416; clear hm416
                                      refine ev_condT hF426 rfl rfl ?_
                                      refine wp_skip ?_
                                      have hF429 : Fr 167 a425 [(142, .bool true), (141, .int .i64 (s404.ph)), (140, .pointer (some ⟨z31, 0, none⟩)), (17, .int .i64 (x405)), (11, .int .i64 (x136)), (7, .slice (some ⟨g151, 0, none⟩) L76.length c88), (5, .pointer (some ⟨z31, 0, none⟩))] := hF426.keep [5, 7, 11, 17, 140, 141, 142]
                                      clear hF426
                                      refine thenN ?_
                                      refine wp_seq ?_
                                      refine wp_block ?_
                                      refine wp_region_lit ?_
                                      refine ev_runs 1 hF429 (l' := [(146, .pointer (some ⟨z31, 0, none⟩)), (142, .bool true), (141, .int .i64 (s404.ph)), (140, .pointer (some ⟨z31, 0, none⟩)), (17, .int .i64 (x405)), (11, .int .i64 (x136)), (7, .slice (some ⟨g151, 0, none⟩) L76.length c88), (5, .pointer (some ⟨z31, 0, none⟩))]) (w' := w419) (by kernel_rfl) ?_
                                      intro a431 hF430; clear hF429
                                      refine ev_call 30 #[.pointer (some ⟨z31, 0, none⟩)] hF430 rfl rfl (by kernel_rfl) rfl (by kernel_rfl) (fun w => by kernel_rfl) ?_
                                      obtain ⟨L432, s433, hx434, hm435⟩ := bind2E hm428; clear hm428
                                      refine (p_Step hS421 hx434).mono ?_
                                      rintro _ w436 ⟨z440, rfl, hS438⟩ a437 hF439; clear hF430 hS421
                                      obtain ⟨hl445, p442, c443, rfl, hp444⟩ := St.shapeG (k := 1) hS438 rfl
                                      have hF446 : Fr 167 a437 [(147, .slice p442 L432.length c443), (146, .pointer (some ⟨z31, 0, none⟩)), (142, .bool true), (141, .int .i64 (s404.ph)), (140, .pointer (some ⟨z31, 0, none⟩)), (17, .int .i64 (x405)), (11, .int .i64 (x136)), (7, .slice (some ⟨g151, 0, none⟩) L76.length c88), (5, .pointer (some ⟨z31, 0, none⟩))] := hF439
                                      clear hF439
                                      refine wpList_nil ?_
                                      have hF447 : Fr 167 a437 [(142, .bool true), (141, .int .i64 (s404.ph)), (140, .pointer (some ⟨z31, 0, none⟩)), (17, .int .i64 (x405)), (11, .int .i64 (x136)), (7, .slice (some ⟨g151, 0, none⟩) L76.length c88), (5, .pointer (some ⟨z31, 0, none⟩))] := hF446.keep [5, 7, 11, 17, 140, 141, 142]
                                      clear hF446
                                      have hS448 : St w0 F0 (HeapP z31 z32 s433 :: RowP (.slice (some ⟨g151, 0, none⟩) L76.length c88) L76 :: ps) w436 := St.ordP [HeapP z31 z32 s433, GonesP (.slice p442 L432.length c443) L432, RowP (.slice (some ⟨g151, 0, none⟩) L76.length c88) L76] ps hS438 [0, 2] [1] (by kernel_rfl)
                                      clear hS438
                                      refine blockN ?_
                                      refine thenN ?_
                                      refine wp_region_lit ?_
                                      refine ev_runs 3 hF447 (l' := [(17, .int .i64 (IntKind.i64.wrap (x405 + 1))), (145, .int .i64 (IntKind.i64.wrap (x405 + 1))), (144, .int .i64 (x405)), (142, .bool true), (141, .int .i64 (s404.ph)), (140, .pointer (some ⟨z31, 0, none⟩)), (11, .int .i64 (x136)), (7, .slice (some ⟨g151, 0, none⟩) L76.length c88), (5, .pointer (some ⟨z31, 0, none⟩))]) (w' := w436) (by kernel_rfl) ?_
                                      intro a450 hF449; clear hF447
                                      refine wpList_nil ?_
                                      have hF451 : Fr 167 a450 [(17, .int .i64 (IntKind.i64.wrap (x405 + 1))), (142, .bool true), (141, .int .i64 (s404.ph)), (140, .pointer (some ⟨z31, 0, none⟩)), (11, .int .i64 (x136)), (7, .slice (some ⟨g151, 0, none⟩) L76.length c88), (5, .pointer (some ⟨z31, 0, none⟩))] := hF449.keep [5, 7, 11, 17, 140, 141, 142]
                                      clear hF449
                                      have hF452 : Fr 167 a450 [(17, .int .i64 (IntKind.i64.wrap (x405 + 1))), (11, .int .i64 (x136)), (7, .slice (some ⟨g151, 0, none⟩) L76.length c88), (5, .pointer (some ⟨z31, 0, none⟩))] := Fr.re hF451 (by kernel_rfl)
                                      clear hF451
                                      exact thenN ⟨k406, Nat.lt_succ_self _, s433, IntKind.i64.wrap (x405 + 1), hF452, hS448, hm435⟩
                                    | false =>
                                      rw [hc427] at hF426
                                      rw [hc427] at hm416
                                      have hm453 := ifF hm416; clear hm416
                                      refine ev_condF hF426 rfl rfl ?_
                                      refine wp_exit ?_
                                      refine thenE ?_
                                      refine thenE ?_
                                      refine blockE ?_
                                      refine thenN ?_
                                      refine wp_seq ?_
                                      -- draws
                                      cases hc454 : (inR (0 : Int) L76.length) with
                                      | false => rw [hc454] at hm453; cases hm453
                                      | true =>
                                        rw [hc454] at hm453
                                        have hm455 := ifT hm453; clear hm453
                                        have hS456 : St w0 F0 (RowP (.slice (some ⟨g151, 0, none⟩) L76.length c88) L76 :: HeapP z31 z32 s404 :: ps) w419 := St.ordP [HeapP z31 z32 s404, RowP (.slice (some ⟨g151, 0, none⟩) L76.length c88) L76] ps hS421 [1, 0] [] (by kernel_rfl)
                                        clear hS421
                                        have hS457 := hS456.drew; clear hS456
                                        refine any_start (fun w => ∃ qs, St w0 F0 (RowP (.slice (some ⟨g151, 0, none⟩) L76.length c88) L76 :: qs) w) (by kernel_rfl) ?_
                                        refine any_take 0 (.pointer (some ⟨z31, 0, none⟩)) hF426 rfl (by kernel_rfl) rfl (by kernel_rfl) (fun w hw => by kernel_rfl) (l' := [(148, .pointer (some ⟨z31, 0, none⟩)), (143, .bool false), (142, .bool false), (141, .int .i64 (s404.ph)), (140, .pointer (some ⟨z31, 0, none⟩)), (17, .int .i64 (x405)), (11, .int .i64 (x136)), (7, .slice (some ⟨g151, 0, none⟩) L76.length c88), (5, .pointer (some ⟨z31, 0, none⟩))]) (by kernel_rfl) (by kernel_rfl) (by kernel_rfl) (by kernel_rfl) (fun _ _ _ h => h) ⟨_, hS457⟩ ?_
                                        intro a459 hF458; clear hF426
                                        refine any_take 2 (.int .i64 (x136)) hF458 rfl (by kernel_rfl) rfl (by kernel_rfl) (fun w hw => by kernel_rfl) (l' := [(150, .int .i64 (x136)), (148, .pointer (some ⟨z31, 0, none⟩)), (143, .bool false), (142, .bool false), (141, .int .i64 (s404.ph)), (140, .pointer (some ⟨z31, 0, none⟩)), (17, .int .i64 (x405)), (11, .int .i64 (x136)), (7, .slice (some ⟨g151, 0, none⟩) L76.length c88), (5, .pointer (some ⟨z31, 0, none⟩))]) (by kernel_rfl) (by kernel_rfl) (by kernel_rfl) (by kernel_rfl) (fun _ _ _ h => h) ⟨_, hS457⟩ ?_
                                        intro a461 hF460; clear hF458
                                        have hS462 : St w0 F0 (HeapP z31 z32 s404 :: RowP (.slice (some ⟨g151, 0, none⟩) L76.length c88) L76 :: ps) (w419.drew) := St.ordP [RowP (.slice (some ⟨g151, 0, none⟩) L76.length c88) L76, HeapP z31 z32 s404] ps hS457 [1, 0] [] (by kernel_rfl)
                                        clear hS457
                                        refine any_call 1 24 #[.pointer (some ⟨z31, 0, none⟩)] hF460 rfl (by kernel_rfl) rfl rfl (by kernel_rfl) rfl (by kernel_rfl) (fun w => by kernel_rfl) ?_
                                        refine (p_Arena hS462).mono ?_
                                        rintro _ w463 ⟨rfl, hS465⟩; clear hS462
                                        refine ⟨⟨_, St.ordP [HeapP z31 z32 s404, RowP (.slice (some ⟨g151, 0, none⟩) L76.length c88) L76] ps hS465 [1, 0] [] (by kernel_rfl)⟩, ?_⟩
                                        intro a464 hF466; clear hF460
                                        have hF467 : Fr 167 a464 [(149, .pointer (some ⟨z32, 0, none⟩)), (150, .int .i64 (x136)), (148, .pointer (some ⟨z31, 0, none⟩)), (143, .bool false), (142, .bool false), (141, .int .i64 (s404.ph)), (140, .pointer (some ⟨z31, 0, none⟩)), (17, .int .i64 (x405)), (11, .int .i64 (x136)), (7, .slice (some ⟨g151, 0, none⟩) L76.length c88), (5, .pointer (some ⟨z31, 0, none⟩))] := hF466
                                        clear hF466
                                        refine any_call 3 33 #[.pointer (some ⟨z32, 0, none⟩), .int .i64 (x136)] hF467 rfl (by kernel_rfl) rfl rfl (by kernel_rfl) rfl (by kernel_rfl) (fun w => by kernel_rfl) ?_
                                        refine (p_Kind hS465).mono ?_
                                        rintro _ w468 ⟨rfl, hS470⟩; clear hS465
                                        refine ⟨⟨_, St.ordP [HeapP z31 z32 s404, RowP (.slice (some ⟨g151, 0, none⟩) L76.length c88) L76] ps hS470 [1, 0] [] (by kernel_rfl)⟩, ?_⟩
                                        intro a469 hF471; clear hF467
                                        have hF472 : Fr 167 a469 [(151, .int .i64 (aKind s404.a.c x136)), (149, .pointer (some ⟨z32, 0, none⟩)), (150, .int .i64 (x136)), (148, .pointer (some ⟨z31, 0, none⟩)), (143, .bool false), (142, .bool false), (141, .int .i64 (s404.ph)), (140, .pointer (some ⟨z31, 0, none⟩)), (17, .int .i64 (x405)), (11, .int .i64 (x136)), (7, .slice (some ⟨g151, 0, none⟩) L76.length c88), (5, .pointer (some ⟨z31, 0, none⟩))] := hF471
                                        clear hF471
                                        refine any_take 4 (.bool ((aKind s404.a.c x136) == 5)) hF472 rfl (by kernel_rfl) rfl (by kernel_rfl) (fun w hw => by kernel_rfl) (l' := [(152, .bool ((aKind s404.a.c x136) == 5)), (151, .int .i64 (aKind s404.a.c x136)), (149, .pointer (some ⟨z32, 0, none⟩)), (150, .int .i64 (x136)), (148, .pointer (some ⟨z31, 0, none⟩)), (143, .bool false), (142, .bool false), (141, .int .i64 (s404.ph)), (140, .pointer (some ⟨z31, 0, none⟩)), (17, .int .i64 (x405)), (11, .int .i64 (x136)), (7, .slice (some ⟨g151, 0, none⟩) L76.length c88), (5, .pointer (some ⟨z31, 0, none⟩))]) (by kernel_rfl) (by kernel_rfl) (by kernel_rfl) (by kernel_rfl) (fun _ _ _ h => h) ⟨_, St.ordP [HeapP z31 z32 s404, RowP (.slice (some ⟨g151, 0, none⟩) L76.length c88) L76] ps hS470 [1, 0] [] (by kernel_rfl)⟩ ?_
                                        intro a474 hF473; clear hF472
                                        refine any_take 5 (.bool ((aKind s404.a.c x136) == 5)) hF473 rfl (by kernel_rfl) rfl (by kernel_rfl) (fun w hw => by kernel_rfl) (l' := [(153, .bool ((aKind s404.a.c x136) == 5)), (152, .bool ((aKind s404.a.c x136) == 5)), (151, .int .i64 (aKind s404.a.c x136)), (149, .pointer (some ⟨z32, 0, none⟩)), (150, .int .i64 (x136)), (148, .pointer (some ⟨z31, 0, none⟩)), (143, .bool false), (142, .bool false), (141, .int .i64 (s404.ph)), (140, .pointer (some ⟨z31, 0, none⟩)), (17, .int .i64 (x405)), (11, .int .i64 (x136)), (7, .slice (some ⟨g151, 0, none⟩) L76.length c88), (5, .pointer (some ⟨z31, 0, none⟩))]) (by kernel_rfl) (by kernel_rfl) (by kernel_rfl) (by kernel_rfl) (fun _ _ _ h => h) ⟨_, St.ordP [HeapP z31 z32 s404, RowP (.slice (some ⟨g151, 0, none⟩) L76.length c88) L76] ps hS470 [1, 0] [] (by kernel_rfl)⟩ ?_
                                        intro a476 hF475; clear hF473
                                        cases hc477 : ((aKind s404.a.c x136) == 5) with
                                        | true =>
                                          rw [hc477] at hF475
                                          rw [hc477] at hm455
                                          have hm478 := ifT hm455; clear hm455
                                          refine any_take 6 (.pointer (some ⟨z31, 0, none⟩)) hF475 rfl (by kernel_rfl) rfl (by kernel_rfl) (fun w hw => by kernel_rfl) (l' := [(154, .pointer (some ⟨z31, 0, none⟩)), (153, .bool true), (152, .bool true), (151, .int .i64 (aKind s404.a.c x136)), (149, .pointer (some ⟨z32, 0, none⟩)), (150, .int .i64 (x136)), (148, .pointer (some ⟨z31, 0, none⟩)), (143, .bool false), (142, .bool false), (141, .int .i64 (s404.ph)), (140, .pointer (some ⟨z31, 0, none⟩)), (17, .int .i64 (x405)), (11, .int .i64 (x136)), (7, .slice (some ⟨g151, 0, none⟩) L76.length c88), (5, .pointer (some ⟨z31, 0, none⟩))]) (by kernel_rfl) (by kernel_rfl) (by kernel_rfl) (by kernel_rfl) (fun _ _ _ h => h) ⟨_, St.ordP [HeapP z31 z32 s404, RowP (.slice (some ⟨g151, 0, none⟩) L76.length c88) L76] ps hS470 [1, 0] [] (by kernel_rfl)⟩ ?_
                                          intro a480 hF479; clear hF475
                                          refine any_take 8 (.slice (some ⟨g151, 0, none⟩) L76.length c88) hF479 rfl (by kernel_rfl) rfl (by kernel_rfl) (fun w hw => by kernel_rfl) (l' := [(156, .slice (some ⟨g151, 0, none⟩) L76.length c88), (154, .pointer (some ⟨z31, 0, none⟩)), (153, .bool true), (152, .bool true), (151, .int .i64 (aKind s404.a.c x136)), (149, .pointer (some ⟨z32, 0, none⟩)), (150, .int .i64 (x136)), (148, .pointer (some ⟨z31, 0, none⟩)), (143, .bool false), (142, .bool false), (141, .int .i64 (s404.ph)), (140, .pointer (some ⟨z31, 0, none⟩)), (17, .int .i64 (x405)), (11, .int .i64 (x136)), (7, .slice (some ⟨g151, 0, none⟩) L76.length c88), (5, .pointer (some ⟨z31, 0, none⟩))]) (by kernel_rfl) (by kernel_rfl) (by kernel_rfl) (by kernel_rfl) (fun _ _ _ h => h) ⟨_, St.ordP [HeapP z31 z32 s404, RowP (.slice (some ⟨g151, 0, none⟩) L76.length c88) L76] ps hS470 [1, 0] [] (by kernel_rfl)⟩ ?_
                                          intro a482 hF481; clear hF479
                                          refine any_take 9 (.pointer (some ⟨g151, (0 : Int).toNat, none⟩)) hF481 rfl (by kernel_rfl) rfl (by kernel_rfl) (fun w hw => run_idx rfl rfl rfl rfl rfl (inR_spec hc454).1 (inR_spec hc454).2 _) (l' := [(157, .pointer (some ⟨g151, (0 : Int).toNat, none⟩)), (156, .slice (some ⟨g151, 0, none⟩) L76.length c88), (154, .pointer (some ⟨z31, 0, none⟩)), (153, .bool true), (152, .bool true), (151, .int .i64 (aKind s404.a.c x136)), (149, .pointer (some ⟨z32, 0, none⟩)), (150, .int .i64 (x136)), (148, .pointer (some ⟨z31, 0, none⟩)), (143, .bool false), (142, .bool false), (141, .int .i64 (s404.ph)), (140, .pointer (some ⟨z31, 0, none⟩)), (17, .int .i64 (x405)), (11, .int .i64 (x136)), (7, .slice (some ⟨g151, 0, none⟩) L76.length c88), (5, .pointer (some ⟨z31, 0, none⟩))]) (by kernel_rfl) (by kernel_rfl) (by kernel_rfl) (by kernel_rfl) (fun _ _ _ h => h) ⟨_, St.ordP [HeapP z31 z32 s404, RowP (.slice (some ⟨g151, 0, none⟩) L76.length c88) L76] ps hS470 [1, 0] [] (by kernel_rfl)⟩ ?_
                                          intro a484 hF483; clear hF481
                                          refine any_take 10 (.int .i64 (atI L76 (0 : Int))) hF483 rfl (by kernel_rfl) rfl (by kernel_rfl) (fun w hw => run_load1 rfl rfl rfl (hw.elim fun qs hw => hw.atI 0 rfl hc454)) (l' := [(158, .int .i64 (atI L76 (0 : Int))), (157, .pointer (some ⟨g151, (0 : Int).toNat, none⟩)), (156, .slice (some ⟨g151, 0, none⟩) L76.length c88), (154, .pointer (some ⟨z31, 0, none⟩)), (153, .bool true), (152, .bool true), (151, .int .i64 (aKind s404.a.c x136)), (149, .pointer (some ⟨z32, 0, none⟩)), (150, .int .i64 (x136)), (148, .pointer (some ⟨z31, 0, none⟩)), (143, .bool false), (142, .bool false), (141, .int .i64 (s404.ph)), (140, .pointer (some ⟨z31, 0, none⟩)), (17, .int .i64 (x405)), (11, .int .i64 (x136)), (7, .slice (some ⟨g151, 0, none⟩) L76.length c88), (5, .pointer (some ⟨z31, 0, none⟩))]) (by kernel_rfl) (by kernel_rfl) (by kernel_rfl) (by kernel_rfl) (fun _ _ _ h => h) ⟨_, St.ordP [HeapP z31 z32 s404, RowP (.slice (some ⟨g151, 0, none⟩) L76.length c88) L76] ps hS470 [1, 0] [] (by kernel_rfl)⟩ ?_
                                          intro a486 hF485; clear hF483
                                          refine any_call 7 24 #[.pointer (some ⟨z31, 0, none⟩)] hF485 rfl (by kernel_rfl) rfl rfl (by kernel_rfl) rfl (by kernel_rfl) (fun w => by kernel_rfl) ?_
                                          refine (p_Arena hS470).mono ?_
                                          rintro _ w487 ⟨rfl, hS489⟩; clear hS470
                                          refine ⟨⟨_, St.ordP [HeapP z31 z32 s404, RowP (.slice (some ⟨g151, 0, none⟩) L76.length c88) L76] ps hS489 [1, 0] [] (by kernel_rfl)⟩, ?_⟩
                                          intro a488 hF490; clear hF485
                                          have hF491 : Fr 167 a488 [(155, .pointer (some ⟨z32, 0, none⟩)), (158, .int .i64 (atI L76 (0 : Int))), (157, .pointer (some ⟨g151, (0 : Int).toNat, none⟩)), (156, .slice (some ⟨g151, 0, none⟩) L76.length c88), (154, .pointer (some ⟨z31, 0, none⟩)), (153, .bool true), (152, .bool true), (151, .int .i64 (aKind s404.a.c x136)), (149, .pointer (some ⟨z32, 0, none⟩)), (150, .int .i64 (x136)), (148, .pointer (some ⟨z31, 0, none⟩)), (143, .bool false), (142, .bool false), (141, .int .i64 (s404.ph)), (140, .pointer (some ⟨z31, 0, none⟩)), (17, .int .i64 (x405)), (11, .int .i64 (x136)), (7, .slice (some ⟨g151, 0, none⟩) L76.length c88), (5, .pointer (some ⟨z31, 0, none⟩))] := hF490
                                          clear hF490
                                          refine any_call 11 33 #[.pointer (some ⟨z32, 0, none⟩), .int .i64 (atI L76 (0 : Int))] hF491 rfl (by kernel_rfl) rfl rfl (by kernel_rfl) rfl (by kernel_rfl) (fun w => by kernel_rfl) ?_
                                          refine (p_Kind hS489).mono ?_
                                          rintro _ w492 ⟨rfl, hS494⟩; clear hS489
                                          refine ⟨⟨_, St.ordP [HeapP z31 z32 s404, RowP (.slice (some ⟨g151, 0, none⟩) L76.length c88) L76] ps hS494 [1, 0] [] (by kernel_rfl)⟩, ?_⟩
                                          intro a493 hF495; clear hF491
                                          have hF496 : Fr 167 a493 [(159, .int .i64 (aKind s404.a.c (atI L76 (0 : Int)))), (155, .pointer (some ⟨z32, 0, none⟩)), (158, .int .i64 (atI L76 (0 : Int))), (157, .pointer (some ⟨g151, (0 : Int).toNat, none⟩)), (156, .slice (some ⟨g151, 0, none⟩) L76.length c88), (154, .pointer (some ⟨z31, 0, none⟩)), (153, .bool true), (152, .bool true), (151, .int .i64 (aKind s404.a.c x136)), (149, .pointer (some ⟨z32, 0, none⟩)), (150, .int .i64 (x136)), (148, .pointer (some ⟨z31, 0, none⟩)), (143, .bool false), (142, .bool false), (141, .int .i64 (s404.ph)), (140, .pointer (some ⟨z31, 0, none⟩)), (17, .int .i64 (x405)), (11, .int .i64 (x136)), (7, .slice (some ⟨g151, 0, none⟩) L76.length c88), (5, .pointer (some ⟨z31, 0, none⟩))] := hF495
                                          clear hF495
                                          refine any_take 12 (.bool ((aKind s404.a.c (atI L76 (0 : Int))) == 5)) hF496 rfl (by kernel_rfl) rfl (by kernel_rfl) (fun w hw => by kernel_rfl) (l' := [(160, .bool ((aKind s404.a.c (atI L76 (0 : Int))) == 5)), (159, .int .i64 (aKind s404.a.c (atI L76 (0 : Int)))), (155, .pointer (some ⟨z32, 0, none⟩)), (158, .int .i64 (atI L76 (0 : Int))), (157, .pointer (some ⟨g151, (0 : Int).toNat, none⟩)), (156, .slice (some ⟨g151, 0, none⟩) L76.length c88), (154, .pointer (some ⟨z31, 0, none⟩)), (153, .bool true), (152, .bool true), (151, .int .i64 (aKind s404.a.c x136)), (149, .pointer (some ⟨z32, 0, none⟩)), (150, .int .i64 (x136)), (148, .pointer (some ⟨z31, 0, none⟩)), (143, .bool false), (142, .bool false), (141, .int .i64 (s404.ph)), (140, .pointer (some ⟨z31, 0, none⟩)), (17, .int .i64 (x405)), (11, .int .i64 (x136)), (7, .slice (some ⟨g151, 0, none⟩) L76.length c88), (5, .pointer (some ⟨z31, 0, none⟩))]) (by kernel_rfl) (by kernel_rfl) (by kernel_rfl) (by kernel_rfl) (fun _ _ _ h => h) ⟨_, St.ordP [HeapP z31 z32 s404, RowP (.slice (some ⟨g151, 0, none⟩) L76.length c88) L76] ps hS494 [1, 0] [] (by kernel_rfl)⟩ ?_
                                          intro a498 hF497; clear hF496
                                          refine any_take 13 (.bool ((aKind s404.a.c (atI L76 (0 : Int))) == 5)) hF497 rfl (by kernel_rfl) rfl (by kernel_rfl) (fun w hw => by kernel_rfl) (l' := [(161, .bool ((aKind s404.a.c (atI L76 (0 : Int))) == 5)), (160, .bool ((aKind s404.a.c (atI L76 (0 : Int))) == 5)), (159, .int .i64 (aKind s404.a.c (atI L76 (0 : Int)))), (155, .pointer (some ⟨z32, 0, none⟩)), (158, .int .i64 (atI L76 (0 : Int))), (157, .pointer (some ⟨g151, (0 : Int).toNat, none⟩)), (156, .slice (some ⟨g151, 0, none⟩) L76.length c88), (154, .pointer (some ⟨z31, 0, none⟩)), (153, .bool true), (152, .bool true), (151, .int .i64 (aKind s404.a.c x136)), (149, .pointer (some ⟨z32, 0, none⟩)), (150, .int .i64 (x136)), (148, .pointer (some ⟨z31, 0, none⟩)), (143, .bool false), (142, .bool false), (141, .int .i64 (s404.ph)), (140, .pointer (some ⟨z31, 0, none⟩)), (17, .int .i64 (x405)), (11, .int .i64 (x136)), (7, .slice (some ⟨g151, 0, none⟩) L76.length c88), (5, .pointer (some ⟨z31, 0, none⟩))]) (by kernel_rfl) (by kernel_rfl) (by kernel_rfl) (by kernel_rfl) (fun _ _ _ h => h) ⟨_, St.ordP [HeapP z31 z32 s404, RowP (.slice (some ⟨g151, 0, none⟩) L76.length c88) L76] ps hS494 [1, 0] [] (by kernel_rfl)⟩ ?_
                                          intro a500 hF499; clear hF497
                                          refine any_take 14 (.bool ((aKind s404.a.c (atI L76 (0 : Int))) == 5)) hF499 rfl (by kernel_rfl) rfl (by kernel_rfl) (fun w hw => by kernel_rfl) (l' := [(162, .bool ((aKind s404.a.c (atI L76 (0 : Int))) == 5)), (161, .bool ((aKind s404.a.c (atI L76 (0 : Int))) == 5)), (160, .bool ((aKind s404.a.c (atI L76 (0 : Int))) == 5)), (159, .int .i64 (aKind s404.a.c (atI L76 (0 : Int)))), (155, .pointer (some ⟨z32, 0, none⟩)), (158, .int .i64 (atI L76 (0 : Int))), (157, .pointer (some ⟨g151, (0 : Int).toNat, none⟩)), (156, .slice (some ⟨g151, 0, none⟩) L76.length c88), (154, .pointer (some ⟨z31, 0, none⟩)), (153, .bool true), (152, .bool true), (151, .int .i64 (aKind s404.a.c x136)), (149, .pointer (some ⟨z32, 0, none⟩)), (150, .int .i64 (x136)), (148, .pointer (some ⟨z31, 0, none⟩)), (143, .bool false), (142, .bool false), (141, .int .i64 (s404.ph)), (140, .pointer (some ⟨z31, 0, none⟩)), (17, .int .i64 (x405)), (11, .int .i64 (x136)), (7, .slice (some ⟨g151, 0, none⟩) L76.length c88), (5, .pointer (some ⟨z31, 0, none⟩))]) (by kernel_rfl) (by kernel_rfl) (by kernel_rfl) (by kernel_rfl) (fun _ _ _ h => h) ⟨_, St.ordP [HeapP z31 z32 s404, RowP (.slice (some ⟨g151, 0, none⟩) L76.length c88) L76] ps hS494 [1, 0] [] (by kernel_rfl)⟩ ?_
                                          intro a502 hF501; clear hF499
                                          cases hc503 : ((aKind s404.a.c (atI L76 (0 : Int))) == 5) with
                                          | true =>
                                            rw [hc503] at hF501
                                            rw [hc503] at hm478
                                            have hm504 := ifT hm478; clear hm478
                                            refine any_take 15 (.pointer (some ⟨z31, 0, none⟩)) hF501 rfl (by kernel_rfl) rfl (by kernel_rfl) (fun w hw => by kernel_rfl) (l' := [(163, .pointer (some ⟨z31, 0, none⟩)), (162, .bool true), (161, .bool true), (160, .bool true), (159, .int .i64 (aKind s404.a.c (atI L76 (0 : Int)))), (155, .pointer (some ⟨z32, 0, none⟩)), (158, .int .i64 (atI L76 (0 : Int))), (157, .pointer (some ⟨g151, (0 : Int).toNat, none⟩)), (156, .slice (some ⟨g151, 0, none⟩) L76.length c88), (154, .pointer (some ⟨z31, 0, none⟩)), (153, .bool true), (152, .bool true), (151, .int .i64 (aKind s404.a.c x136)), (149, .pointer (some ⟨z32, 0, none⟩)), (150, .int .i64 (x136)), (148, .pointer (some ⟨z31, 0, none⟩)), (143, .bool false), (142, .bool false), (141, .int .i64 (s404.ph)), (140, .pointer (some ⟨z31, 0, none⟩)), (17, .int .i64 (x405)), (11, .int .i64 (x136)), (7, .slice (some ⟨g151, 0, none⟩) L76.length c88), (5, .pointer (some ⟨z31, 0, none⟩))]) (by kernel_rfl) (by kernel_rfl) (by kernel_rfl) (by kernel_rfl) (fun _ _ _ h => h) ⟨_, St.ordP [HeapP z31 z32 s404, RowP (.slice (some ⟨g151, 0, none⟩) L76.length c88) L76] ps hS494 [1, 0] [] (by kernel_rfl)⟩ ?_
                                            intro a506 hF505; clear hF501
                                            refine any_call 16 34 #[.pointer (some ⟨z31, 0, none⟩)] hF505 rfl (by kernel_rfl) rfl rfl (by kernel_rfl) rfl (by kernel_rfl) (fun w => by kernel_rfl) ?_
                                            refine (p_Cycles hS494).mono ?_
                                            rintro _ w507 ⟨rfl, hS509⟩; clear hS494
                                            refine ⟨⟨_, St.ordP [HeapP z31 z32 s404, RowP (.slice (some ⟨g151, 0, none⟩) L76.length c88) L76] ps hS509 [1, 0] [] (by kernel_rfl)⟩, ?_⟩
                                            intro a508 hF510; clear hF505
                                            have hF511 : Fr 167 a508 [(164, .int .i64 (s404.cy)), (163, .pointer (some ⟨z31, 0, none⟩)), (162, .bool true), (161, .bool true), (160, .bool true), (159, .int .i64 (aKind s404.a.c (atI L76 (0 : Int)))), (155, .pointer (some ⟨z32, 0, none⟩)), (158, .int .i64 (atI L76 (0 : Int))), (157, .pointer (some ⟨g151, (0 : Int).toNat, none⟩)), (156, .slice (some ⟨g151, 0, none⟩) L76.length c88), (154, .pointer (some ⟨z31, 0, none⟩)), (153, .bool true), (152, .bool true), (151, .int .i64 (aKind s404.a.c x136)), (149, .pointer (some ⟨z32, 0, none⟩)), (150, .int .i64 (x136)), (148, .pointer (some ⟨z31, 0, none⟩)), (143, .bool false), (142, .bool false), (141, .int .i64 (s404.ph)), (140, .pointer (some ⟨z31, 0, none⟩)), (17, .int .i64 (x405)), (11, .int .i64 (x136)), (7, .slice (some ⟨g151, 0, none⟩) L76.length c88), (5, .pointer (some ⟨z31, 0, none⟩))] := hF510
                                            clear hF510
                                            refine any_take 17 (.bool (s404.cy == 1)) hF511 rfl (by kernel_rfl) rfl (by kernel_rfl) (fun w hw => by kernel_rfl) (l' := [(165, .bool (s404.cy == 1)), (164, .int .i64 (s404.cy)), (163, .pointer (some ⟨z31, 0, none⟩)), (162, .bool true), (161, .bool true), (160, .bool true), (159, .int .i64 (aKind s404.a.c (atI L76 (0 : Int)))), (155, .pointer (some ⟨z32, 0, none⟩)), (158, .int .i64 (atI L76 (0 : Int))), (157, .pointer (some ⟨g151, (0 : Int).toNat, none⟩)), (156, .slice (some ⟨g151, 0, none⟩) L76.length c88), (154, .pointer (some ⟨z31, 0, none⟩)), (153, .bool true), (152, .bool true), (151, .int .i64 (aKind s404.a.c x136)), (149, .pointer (some ⟨z32, 0, none⟩)), (150, .int .i64 (x136)), (148, .pointer (some ⟨z31, 0, none⟩)), (143, .bool false), (142, .bool false), (141, .int .i64 (s404.ph)), (140, .pointer (some ⟨z31, 0, none⟩)), (17, .int .i64 (x405)), (11, .int .i64 (x136)), (7, .slice (some ⟨g151, 0, none⟩) L76.length c88), (5, .pointer (some ⟨z31, 0, none⟩))]) (by kernel_rfl) (by kernel_rfl) (by kernel_rfl) (by kernel_rfl) (fun _ _ _ h => h) ⟨_, St.ordP [HeapP z31 z32 s404, RowP (.slice (some ⟨g151, 0, none⟩) L76.length c88) L76] ps hS509 [1, 0] [] (by kernel_rfl)⟩ ?_
                                            intro a513 hF512; clear hF511
                                            refine any_take 18 (.bool (s404.cy == 1)) hF512 rfl (by kernel_rfl) rfl (by kernel_rfl) (fun w hw => by kernel_rfl) (l' := [(166, .bool (s404.cy == 1)), (165, .bool (s404.cy == 1)), (164, .int .i64 (s404.cy)), (163, .pointer (some ⟨z31, 0, none⟩)), (162, .bool true), (161, .bool true), (160, .bool true), (159, .int .i64 (aKind s404.a.c (atI L76 (0 : Int)))), (155, .pointer (some ⟨z32, 0, none⟩)), (158, .int .i64 (atI L76 (0 : Int))), (157, .pointer (some ⟨g151, (0 : Int).toNat, none⟩)), (156, .slice (some ⟨g151, 0, none⟩) L76.length c88), (154, .pointer (some ⟨z31, 0, none⟩)), (153, .bool true), (152, .bool true), (151, .int .i64 (aKind s404.a.c x136)), (149, .pointer (some ⟨z32, 0, none⟩)), (150, .int .i64 (x136)), (148, .pointer (some ⟨z31, 0, none⟩)), (143, .bool false), (142, .bool false), (141, .int .i64 (s404.ph)), (140, .pointer (some ⟨z31, 0, none⟩)), (17, .int .i64 (x405)), (11, .int .i64 (x136)), (7, .slice (some ⟨g151, 0, none⟩) L76.length c88), (5, .pointer (some ⟨z31, 0, none⟩))]) (by kernel_rfl) (by kernel_rfl) (by kernel_rfl) (by kernel_rfl) (fun _ _ _ h => h) ⟨_, St.ordP [HeapP z31 z32 s404, RowP (.slice (some ⟨g151, 0, none⟩) L76.length c88) L76] ps hS509 [1, 0] [] (by kernel_rfl)⟩ ?_
                                            intro a515 hF514; clear hF512
                                            refine any_take 19 (.bool (s404.cy == 1)) hF514 rfl (by kernel_rfl) rfl (by kernel_rfl) (fun w hw => by kernel_rfl) (l' := [(4, .bool (s404.cy == 1)), (166, .bool (s404.cy == 1)), (165, .bool (s404.cy == 1)), (164, .int .i64 (s404.cy)), (163, .pointer (some ⟨z31, 0, none⟩)), (162, .bool true), (161, .bool true), (160, .bool true), (159, .int .i64 (aKind s404.a.c (atI L76 (0 : Int)))), (155, .pointer (some ⟨z32, 0, none⟩)), (158, .int .i64 (atI L76 (0 : Int))), (157, .pointer (some ⟨g151, (0 : Int).toNat, none⟩)), (156, .slice (some ⟨g151, 0, none⟩) L76.length c88), (154, .pointer (some ⟨z31, 0, none⟩)), (153, .bool true), (152, .bool true), (151, .int .i64 (aKind s404.a.c x136)), (149, .pointer (some ⟨z32, 0, none⟩)), (150, .int .i64 (x136)), (148, .pointer (some ⟨z31, 0, none⟩)), (143, .bool false), (142, .bool false), (141, .int .i64 (s404.ph)), (140, .pointer (some ⟨z31, 0, none⟩)), (17, .int .i64 (x405)), (11, .int .i64 (x136)), (7, .slice (some ⟨g151, 0, none⟩) L76.length c88), (5, .pointer (some ⟨z31, 0, none⟩))]) (by kernel_rfl) (by kernel_rfl) (by kernel_rfl) (by kernel_rfl) (fun _ _ _ h => h) ⟨_, St.ordP [HeapP z31 z32 s404, RowP (.slice (some ⟨g151, 0, none⟩) L76.length c88) L76] ps hS509 [1, 0] [] (by kernel_rfl)⟩ ?_
                                            intro a517 hF516; clear hF514
                                            refine any_done (by kernel_rfl) ?_
                                            have hF518 : Fr 167 a517 [(4, .bool (s404.cy == 1))] := hF516.keep [4]
                                            clear hF516
                                            have hS519 : St w0 F0 (ps) w507 := St.ordP [HeapP z31 z32 s404, RowP (.slice (some ⟨g151, 0, none⟩) L76.length c88) L76] ps hS509 [] [0, 1] (by kernel_rfl)
                                            clear hS509
                                            refine thenN ?_
                                            refine wp_ret ?_
                                            obtain rfl := Option.some.inj hm504
                                            refine ev_ret hF518 [4] (.bool (s404.cy == 1)) rfl rfl rfl ?_
                                            exact ⟨rfl, hS519⟩
                                          | false =>
                                            rw [hc503] at hF501
                                            rw [hc503] at hm478
                                            have hm521 := ifF hm478; clear hm478
                                            refine any_pass 15 hF501 rfl (by kernel_rfl) (l' := [(163, .tuple #[]), (162, .bool false), (161, .bool false), (160, .bool false), (159, .int .i64 (aKind s404.a.c (atI L76 (0 : Int)))), (155, .pointer (some ⟨z32, 0, none⟩)), (158, .int .i64 (atI L76 (0 : Int))), (157, .pointer (some ⟨g151, (0 : Int).toNat, none⟩)), (156, .slice (some ⟨g151, 0, none⟩) L76.length c88), (154, .pointer (some ⟨z31, 0, none⟩)), (153, .bool true), (152, .bool true), (151, .int .i64 (aKind s404.a.c x136)), (149, .pointer (some ⟨z32, 0, none⟩)), (150, .int .i64 (x136)), (148, .pointer (some ⟨z31, 0, none⟩)), (143, .bool false), (142, .bool false), (141, .int .i64 (s404.ph)), (140, .pointer (some ⟨z31, 0, none⟩)), (17, .int .i64 (x405)), (11, .int .i64 (x136)), (7, .slice (some ⟨g151, 0, none⟩) L76.length c88), (5, .pointer (some ⟨z31, 0, none⟩))]) (by kernel_rfl) (by kernel_rfl) (by kernel_rfl) (by kernel_rfl) (fun _ _ _ h => h) ⟨_, St.ordP [HeapP z31 z32 s404, RowP (.slice (some ⟨g151, 0, none⟩) L76.length c88) L76] ps hS494 [1, 0] [] (by kernel_rfl)⟩ ?_
                                            intro a523 hF522; clear hF501
                                            refine any_pass 16 hF522 rfl (by kernel_rfl) (l' := [(164, .tuple #[]), (163, .tuple #[]), (162, .bool false), (161, .bool false), (160, .bool false), (159, .int .i64 (aKind s404.a.c (atI L76 (0 : Int)))), (155, .pointer (some ⟨z32, 0, none⟩)), (158, .int .i64 (atI L76 (0 : Int))), (157, .pointer (some ⟨g151, (0 : Int).toNat, none⟩)), (156, .slice (some ⟨g151, 0, none⟩) L76.length c88), (154, .pointer (some ⟨z31, 0, none⟩)), (153, .bool true), (152, .bool true), (151, .int .i64 (aKind s404.a.c x136)), (149, .pointer (some ⟨z32, 0, none⟩)), (150, .int .i64 (x136)), (148, .pointer (some ⟨z31, 0, none⟩)), (143, .bool false), (142, .bool false), (141, .int .i64 (s404.ph)), (140, .pointer (some ⟨z31, 0, none⟩)), (17, .int .i64 (x405)), (11, .int .i64 (x136)), (7, .slice (some ⟨g151, 0, none⟩) L76.length c88), (5, .pointer (some ⟨z31, 0, none⟩))]) (by kernel_rfl) (by kernel_rfl) (by kernel_rfl) (by kernel_rfl) (fun _ _ _ h => h) ⟨_, St.ordP [HeapP z31 z32 s404, RowP (.slice (some ⟨g151, 0, none⟩) L76.length c88) L76] ps hS494 [1, 0] [] (by kernel_rfl)⟩ ?_
                                            intro a525 hF524; clear hF522
                                            refine any_pass 17 hF524 rfl (by kernel_rfl) (l' := [(165, .tuple #[]), (164, .tuple #[]), (163, .tuple #[]), (162, .bool false), (161, .bool false), (160, .bool false), (159, .int .i64 (aKind s404.a.c (atI L76 (0 : Int)))), (155, .pointer (some ⟨z32, 0, none⟩)), (158, .int .i64 (atI L76 (0 : Int))), (157, .pointer (some ⟨g151, (0 : Int).toNat, none⟩)), (156, .slice (some ⟨g151, 0, none⟩) L76.length c88), (154, .pointer (some ⟨z31, 0, none⟩)), (153, .bool true), (152, .bool true), (151, .int .i64 (aKind s404.a.c x136)), (149, .pointer (some ⟨z32, 0, none⟩)), (150, .int .i64 (x136)), (148, .pointer (some ⟨z31, 0, none⟩)), (143, .bool false), (142, .bool false), (141, .int .i64 (s404.ph)), (140, .pointer (some ⟨z31, 0, none⟩)), (17, .int .i64 (x405)), (11, .int .i64 (x136)), (7, .slice (some ⟨g151, 0, none⟩) L76.length c88), (5, .pointer (some ⟨z31, 0, none⟩))]) (by kernel_rfl) (by kernel_rfl) (by kernel_rfl) (by kernel_rfl) (fun _ _ _ h => h) ⟨_, St.ordP [HeapP z31 z32 s404, RowP (.slice (some ⟨g151, 0, none⟩) L76.length c88) L76] ps hS494 [1, 0] [] (by kernel_rfl)⟩ ?_
                                            intro a527 hF526; clear hF524
                                            refine any_take 18 (.bool false) hF526 rfl (by kernel_rfl) rfl (by kernel_rfl) (fun w hw => by kernel_rfl) (l' := [(166, .bool false), (165, .tuple #[]), (164, .tuple #[]), (163, .tuple #[]), (162, .bool false), (161, .bool false), (160, .bool false), (159, .int .i64 (aKind s404.a.c (atI L76 (0 : Int)))), (155, .pointer (some ⟨z32, 0, none⟩)), (158, .int .i64 (atI L76 (0 : Int))), (157, .pointer (some ⟨g151, (0 : Int).toNat, none⟩)), (156, .slice (some ⟨g151, 0, none⟩) L76.length c88), (154, .pointer (some ⟨z31, 0, none⟩)), (153, .bool true), (152, .bool true), (151, .int .i64 (aKind s404.a.c x136)), (149, .pointer (some ⟨z32, 0, none⟩)), (150, .int .i64 (x136)), (148, .pointer (some ⟨z31, 0, none⟩)), (143, .bool false), (142, .bool false), (141, .int .i64 (s404.ph)), (140, .pointer (some ⟨z31, 0, none⟩)), (17, .int .i64 (x405)), (11, .int .i64 (x136)), (7, .slice (some ⟨g151, 0, none⟩) L76.length c88), (5, .pointer (some ⟨z31, 0, none⟩))]) (by kernel_rfl) (by kernel_rfl) (by kernel_rfl) (by kernel_rfl) (fun _ _ _ h => h) ⟨_, St.ordP [HeapP z31 z32 s404, RowP (.slice (some ⟨g151, 0, none⟩) L76.length c88) L76] ps hS494 [1, 0] [] (by kernel_rfl)⟩ ?_
                                            intro a529 hF528; clear hF526
                                            refine any_take 19 (.bool false) hF528 rfl (by kernel_rfl) rfl (by kernel_rfl) (fun w hw => by kernel_rfl) (l' := [(4, .bool false), (166, .bool false), (165, .tuple #[]), (164, .tuple #[]), (163, .tuple #[]), (162, .bool false), (161, .bool false), (160, .bool false), (159, .int .i64 (aKind s404.a.c (atI L76 (0 : Int)))), (155, .pointer (some ⟨z32, 0, none⟩)), (158, .int .i64 (atI L76 (0 : Int))), (157, .pointer (some ⟨g151, (0 : Int).toNat, none⟩)), (156, .slice (some ⟨g151, 0, none⟩) L76.length c88), (154, .pointer (some ⟨z31, 0, none⟩)), (153, .bool true), (152, .bool true), (151, .int .i64 (aKind s404.a.c x136)), (149, .pointer (some ⟨z32, 0, none⟩)), (150, .int .i64 (x136)), (148, .pointer (some ⟨z31, 0, none⟩)), (143, .bool false), (142, .bool false), (141, .int .i64 (s404.ph)), (140, .pointer (some ⟨z31, 0, none⟩)), (17, .int .i64 (x405)), (11, .int .i64 (x136)), (7, .slice (some ⟨g151, 0, none⟩) L76.length c88), (5, .pointer (some ⟨z31, 0, none⟩))]) (by kernel_rfl) (by kernel_rfl) (by kernel_rfl) (by kernel_rfl) (fun _ _ _ h => h) ⟨_, St.ordP [HeapP z31 z32 s404, RowP (.slice (some ⟨g151, 0, none⟩) L76.length c88) L76] ps hS494 [1, 0] [] (by kernel_rfl)⟩ ?_
                                            intro a531 hF530; clear hF528
                                            refine any_done (by kernel_rfl) ?_
                                            have hF532 : Fr 167 a531 [(4, .bool false)] := hF530.keep [4]
                                            clear hF530
                                            have hS533 : St w0 F0 (ps) w492 := St.ordP [HeapP z31 z32 s404, RowP (.slice (some ⟨g151, 0, none⟩) L76.length c88) L76] ps hS494 [] [0, 1] (by kernel_rfl)
                                            clear hS494
                                            refine thenN ?_
                                            refine wp_ret ?_
                                            obtain rfl := Option.some.inj hm521
                                            refine ev_ret hF532 [4] (.bool false) rfl rfl rfl ?_
                                            exact ⟨rfl, hS533⟩
                                        | false =>
                                          rw [hc477] at hF475
                                          rw [hc477] at hm455
                                          have hm535 := ifF hm455; clear hm455
                                          refine any_pass 6 hF475 rfl (by kernel_rfl) (l' := [(154, .tuple #[]), (153, .bool false), (152, .bool false), (151, .int .i64 (aKind s404.a.c x136)), (149, .pointer (some ⟨z32, 0, none⟩)), (150, .int .i64 (x136)), (148, .pointer (some ⟨z31, 0, none⟩)), (143, .bool false), (142, .bool false), (141, .int .i64 (s404.ph)), (140, .pointer (some ⟨z31, 0, none⟩)), (17, .int .i64 (x405)), (11, .int .i64 (x136)), (7, .slice (some ⟨g151, 0, none⟩) L76.length c88), (5, .pointer (some ⟨z31, 0, none⟩))]) (by kernel_rfl) (by kernel_rfl) (by kernel_rfl) (by kernel_rfl) (fun _ _ _ h => h) ⟨_, St.ordP [HeapP z31 z32 s404, RowP (.slice (some ⟨g151, 0, none⟩) L76.length c88) L76] ps hS470 [1, 0] [] (by kernel_rfl)⟩ ?_
                                          intro a537 hF536; clear hF475
                                          refine any_pass 7 hF536 rfl (by kernel_rfl) (l' := [(155, .tuple #[]), (154, .tuple #[]), (153, .bool false), (152, .bool false), (151, .int .i64 (aKind s404.a.c x136)), (149, .pointer (some ⟨z32, 0, none⟩)), (150, .int .i64 (x136)), (148, .pointer (some ⟨z31, 0, none⟩)), (143, .bool false), (142, .bool false), (141, .int .i64 (s404.ph)), (140, .pointer (some ⟨z31, 0, none⟩)), (17, .int .i64 (x405)), (11, .int .i64 (x136)), (7, .slice (some ⟨g151, 0, none⟩) L76.length c88), (5, .pointer (some ⟨z31, 0, none⟩))]) (by kernel_rfl) (by kernel_rfl) (by kernel_rfl) (by kernel_rfl) (fun _ _ _ h => h) ⟨_, St.ordP [HeapP z31 z32 s404, RowP (.slice (some ⟨g151, 0, none⟩) L76.length c88) L76] ps hS470 [1, 0] [] (by kernel_rfl)⟩ ?_
                                          intro a539 hF538; clear hF536
                                          refine any_pass 8 hF538 rfl (by kernel_rfl) (l' := [(156, .tuple #[]), (155, .tuple #[]), (154, .tuple #[]), (153, .bool false), (152, .bool false), (151, .int .i64 (aKind s404.a.c x136)), (149, .pointer (some ⟨z32, 0, none⟩)), (150, .int .i64 (x136)), (148, .pointer (some ⟨z31, 0, none⟩)), (143, .bool false), (142, .bool false), (141, .int .i64 (s404.ph)), (140, .pointer (some ⟨z31, 0, none⟩)), (17, .int .i64 (x405)), (11, .int .i64 (x136)), (7, .slice (some ⟨g151, 0, none⟩) L76.length c88), (5, .pointer (some ⟨z31, 0, none⟩))]) (by kernel_rfl) (by kernel_rfl) (by kernel_rfl) (by kernel_rfl) (fun _ _ _ h => h) ⟨_, St.ordP [HeapP z31 z32 s404, RowP (.slice (some ⟨g151, 0, none⟩) L76.length c88) L76] ps hS470 [1, 0] [] (by kernel_rfl)⟩ ?_
                                          intro a541 hF540; clear hF538
                                          refine any_pass 9 hF540 rfl (by kernel_rfl) (l' := [(157, .tuple #[]), (156, .tuple #[]), (155, .tuple #[]), (154, .tuple #[]), (153, .bool false), (152, .bool false), (151, .int .i64 (aKind s404.a.c x136)), (149, .pointer (some ⟨z32, 0, none⟩)), (150, .int .i64 (x136)), (148, .pointer (some ⟨z31, 0, none⟩)), (143, .bool false), (142, .bool false), (141, .int .i64 (s404.ph)), (140, .pointer (some ⟨z31, 0, none⟩)), (17, .int .i64 (x405)), (11, .int .i64 (x136)), (7, .slice (some ⟨g151, 0, none⟩) L76.length c88), (5, .pointer (some ⟨z31, 0, none⟩))]) (by kernel_rfl) (by kernel_rfl) (by kernel_rfl) (by kernel_rfl) (fun _ _ _ h => h) ⟨_, St.ordP [HeapP z31 z32 s404, RowP (.slice (some ⟨g151, 0, none⟩) L76.length c88) L76] ps hS470 [1, 0] [] (by kernel_rfl)⟩ ?_
                                          intro a543 hF542; clear hF540
                                          refine any_pass 10 hF542 rfl (by kernel_rfl) (l' := [(158, .tuple #[]), (157, .tuple #[]), (156, .tuple #[]), (155, .tuple #[]), (154, .tuple #[]), (153, .bool false), (152, .bool false), (151, .int .i64 (aKind s404.a.c x136)), (149, .pointer (some ⟨z32, 0, none⟩)), (150, .int .i64 (x136)), (148, .pointer (some ⟨z31, 0, none⟩)), (143, .bool false), (142, .bool false), (141, .int .i64 (s404.ph)), (140, .pointer (some ⟨z31, 0, none⟩)), (17, .int .i64 (x405)), (11, .int .i64 (x136)), (7, .slice (some ⟨g151, 0, none⟩) L76.length c88), (5, .pointer (some ⟨z31, 0, none⟩))]) (by kernel_rfl) (by kernel_rfl) (by kernel_rfl) (by kernel_rfl) (fun _ _ _ h => h) ⟨_, St.ordP [HeapP z31 z32 s404, RowP (.slice (some ⟨g151, 0, none⟩) L76.length c88) L76] ps hS470 [1, 0] [] (by kernel_rfl)⟩ ?_
                                          intro a545 hF544; clear hF542
                                          refine any_pass 11 hF544 rfl (by kernel_rfl) (l' := [(159, .tuple #[]), (158, .tuple #[]), (157, .tuple #[]), (156, .tuple #[]), (155, .tuple #[]), (154, .tuple #[]), (153, .bool false), (152, .bool false), (151, .int .i64 (aKind s404.a.c x136)), (149, .pointer (some ⟨z32, 0, none⟩)), (150, .int .i64 (x136)), (148, .pointer (some ⟨z31, 0, none⟩)), (143, .bool false), (142, .bool false), (141, .int .i64 (s404.ph)), (140, .pointer (some ⟨z31, 0, none⟩)), (17, .int .i64 (x405)), (11, .int .i64 (x136)), (7, .slice (some ⟨g151, 0, none⟩) L76.length c88), (5, .pointer (some ⟨z31, 0, none⟩))]) (by kernel_rfl) (by kernel_rfl) (by kernel_rfl) (by kernel_rfl) (fun _ _ _ h => h) ⟨_, St.ordP [HeapP z31 z32 s404, RowP (.slice (some ⟨g151, 0, none⟩) L76.length c88) L76] ps hS470 [1, 0] [] (by kernel_rfl)⟩ ?_
                                          intro a547 hF546; clear hF544
                                          refine any_pass 12 hF546 rfl (by kernel_rfl) (l' := [(160, .tuple #[]), (159, .tuple #[]), (158, .tuple #[]), (157, .tuple #[]), (156, .tuple #[]), (155, .tuple #[]), (154, .tuple #[]), (153, .bool false), (152, .bool false), (151, .int .i64 (aKind s404.a.c x136)), (149, .pointer (some ⟨z32, 0, none⟩)), (150, .int .i64 (x136)), (148, .pointer (some ⟨z31, 0, none⟩)), (143, .bool false), (142, .bool false), (141, .int .i64 (s404.ph)), (140, .pointer (some ⟨z31, 0, none⟩)), (17, .int .i64 (x405)), (11, .int .i64 (x136)), (7, .slice (some ⟨g151, 0, none⟩) L76.length c88), (5, .pointer (some ⟨z31, 0, none⟩))]) (by kernel_rfl) (by kernel_rfl) (by kernel_rfl) (by kernel_rfl) (fun _ _ _ h => h) ⟨_, St.ordP [HeapP z31 z32 s404, RowP (.slice (some ⟨g151, 0, none⟩) L76.length c88) L76] ps hS470 [1, 0] [] (by kernel_rfl)⟩ ?_
                                          intro a549 hF548; clear hF546
                                          refine any_take 13 (.bool false) hF548 rfl (by kernel_rfl) rfl (by kernel_rfl) (fun w hw => by kernel_rfl) (l' := [(161, .bool false), (160, .tuple #[]), (159, .tuple #[]), (158, .tuple #[]), (157, .tuple #[]), (156, .tuple #[]), (155, .tuple #[]), (154, .tuple #[]), (153, .bool false), (152, .bool false), (151, .int .i64 (aKind s404.a.c x136)), (149, .pointer (some ⟨z32, 0, none⟩)), (150, .int .i64 (x136)), (148, .pointer (some ⟨z31, 0, none⟩)), (143, .bool false), (142, .bool false), (141, .int .i64 (s404.ph)), (140, .pointer (some ⟨z31, 0, none⟩)), (17, .int .i64 (x405)), (11, .int .i64 (x136)), (7, .slice (some ⟨g151, 0, none⟩) L76.length c88), (5, .pointer (some ⟨z31, 0, none⟩))]) (by kernel_rfl) (by kernel_rfl) (by kernel_rfl) (by kernel_rfl) (fun _ _ _ h => h) ⟨_, St.ordP [HeapP z31 z32 s404, RowP (.slice (some ⟨g151, 0, none⟩) L76.length c88) L76] ps hS470 [1, 0] [] (by kernel_rfl)⟩ ?_
                                          intro a551 hF550; clear hF548
                                          refine any_take 14 (.bool false) hF550 rfl (by kernel_rfl) rfl (by kernel_rfl) (fun w hw => by kernel_rfl) (l' := [(162, .bool false), (161, .bool false), (160, .tuple #[]), (159, .tuple #[]), (158, .tuple #[]), (157, .tuple #[]), (156, .tuple #[]), (155, .tuple #[]), (154, .tuple #[]), (153, .bool false), (152, .bool false), (151, .int .i64 (aKind s404.a.c x136)), (149, .pointer (some ⟨z32, 0, none⟩)), (150, .int .i64 (x136)), (148, .pointer (some ⟨z31, 0, none⟩)), (143, .bool false), (142, .bool false), (141, .int .i64 (s404.ph)), (140, .pointer (some ⟨z31, 0, none⟩)), (17, .int .i64 (x405)), (11, .int .i64 (x136)), (7, .slice (some ⟨g151, 0, none⟩) L76.length c88), (5, .pointer (some ⟨z31, 0, none⟩))]) (by kernel_rfl) (by kernel_rfl) (by kernel_rfl) (by kernel_rfl) (fun _ _ _ h => h) ⟨_, St.ordP [HeapP z31 z32 s404, RowP (.slice (some ⟨g151, 0, none⟩) L76.length c88) L76] ps hS470 [1, 0] [] (by kernel_rfl)⟩ ?_
                                          intro a553 hF552; clear hF550
                                          refine any_pass 15 hF552 rfl (by kernel_rfl) (l' := [(163, .tuple #[]), (162, .bool false), (161, .bool false), (160, .tuple #[]), (159, .tuple #[]), (158, .tuple #[]), (157, .tuple #[]), (156, .tuple #[]), (155, .tuple #[]), (154, .tuple #[]), (153, .bool false), (152, .bool false), (151, .int .i64 (aKind s404.a.c x136)), (149, .pointer (some ⟨z32, 0, none⟩)), (150, .int .i64 (x136)), (148, .pointer (some ⟨z31, 0, none⟩)), (143, .bool false), (142, .bool false), (141, .int .i64 (s404.ph)), (140, .pointer (some ⟨z31, 0, none⟩)), (17, .int .i64 (x405)), (11, .int .i64 (x136)), (7, .slice (some ⟨g151, 0, none⟩) L76.length c88), (5, .pointer (some ⟨z31, 0, none⟩))]) (by kernel_rfl) (by kernel_rfl) (by kernel_rfl) (by kernel_rfl) (fun _ _ _ h => h) ⟨_, St.ordP [HeapP z31 z32 s404, RowP (.slice (some ⟨g151, 0, none⟩) L76.length c88) L76] ps hS470 [1, 0] [] (by kernel_rfl)⟩ ?_
                                          intro a555 hF554; clear hF552
                                          refine any_pass 16 hF554 rfl (by kernel_rfl) (l' := [(164, .tuple #[]), (163, .tuple #[]), (162, .bool false), (161, .bool false), (160, .tuple #[]), (159, .tuple #[]), (158, .tuple #[]), (157, .tuple #[]), (156, .tuple #[]), (155, .tuple #[]), (154, .tuple #[]), (153, .bool false), (152, .bool false), (151, .int .i64 (aKind s404.a.c x136)), (149, .pointer (some ⟨z32, 0, none⟩)), (150, .int .i64 (x136)), (148, .pointer (some ⟨z31, 0, none⟩)), (143, .bool false), (142, .bool false), (141, .int .i64 (s404.ph)), (140, .pointer (some ⟨z31, 0, none⟩)), (17, .int .i64 (x405)), (11, .int .i64 (x136)), (7, .slice (some ⟨g151, 0, none⟩) L76.length c88), (5, .pointer (some ⟨z31, 0, none⟩))]) (by kernel_rfl) (by kernel_rfl) (by kernel_rfl) (by kernel_rfl) (fun _ _ _ h => h) ⟨_, St.ordP [HeapP z31 z32 s404, RowP (.slice (some ⟨g151, 0, none⟩) L76.length c88) L76] ps hS470 [1, 0] [] (by kernel_rfl)⟩ ?_
                                          intro a557 hF556; clear hF554
                                          refine any_pass 17 hF556 rfl (by kernel_rfl) (l' := [(165, .tuple #[]), (164, .tuple #[]), (163, .tuple #[]), (162, .bool false), (161, .bool false), (160, .tuple #[]), (159, .tuple #[]), (158, .tuple #[]), (157, .tuple #[]), (156, .tuple #[]), (155, .tuple #[]), (154, .tuple #[]), (153, .bool false), (152, .bool false), (151, .int .i64 (aKind s404.a.c x136)), (149, .pointer (some ⟨z32, 0, none⟩)), (150, .int .i64 (x136)), (148, .pointer (some ⟨z31, 0, none⟩)), (143, .bool false), (142, .bool false), (141, .int .i64 (s404.ph)), (140, .pointer (some ⟨z31, 0, none⟩)), (17, .int .i64 (x405)), (11, .int .i64 (x136)), (7, .slice (some ⟨g151, 0, none⟩) L76.length c88), (5, .pointer (some ⟨z31, 0, none⟩))]) (by kernel_rfl) (by kernel_rfl) (by kernel_rfl) (by kernel_rfl) (fun _ _ _ h => h) ⟨_, St.ordP [HeapP z31 z32 s404, RowP (.slice (some ⟨g151, 0, none⟩) L76.length c88) L76] ps hS470 [1, 0] [] (by kernel_rfl)⟩ ?_
                                          intro a559 hF558; clear hF556
                                          refine any_take 18 (.bool false) hF558 rfl (by kernel_rfl) rfl (by kernel_rfl) (fun w hw => by kernel_rfl) (l' := [(166, .bool false), (165, .tuple #[]), (164, .tuple #[]), (163, .tuple #[]), (162, .bool false), (161, .bool false), (160, .tuple #[]), (159, .tuple #[]), (158, .tuple #[]), (157, .tuple #[]), (156, .tuple #[]), (155, .tuple #[]), (154, .tuple #[]), (153, .bool false), (152, .bool false), (151, .int .i64 (aKind s404.a.c x136)), (149, .pointer (some ⟨z32, 0, none⟩)), (150, .int .i64 (x136)), (148, .pointer (some ⟨z31, 0, none⟩)), (143, .bool false), (142, .bool false), (141, .int .i64 (s404.ph)), (140, .pointer (some ⟨z31, 0, none⟩)), (17, .int .i64 (x405)), (11, .int .i64 (x136)), (7, .slice (some ⟨g151, 0, none⟩) L76.length c88), (5, .pointer (some ⟨z31, 0, none⟩))]) (by kernel_rfl) (by kernel_rfl) (by kernel_rfl) (by kernel_rfl) (fun _ _ _ h => h) ⟨_, St.ordP [HeapP z31 z32 s404, RowP (.slice (some ⟨g151, 0, none⟩) L76.length c88) L76] ps hS470 [1, 0] [] (by kernel_rfl)⟩ ?_
                                          intro a561 hF560; clear hF558
                                          refine any_take 19 (.bool false) hF560 rfl (by kernel_rfl) rfl (by kernel_rfl) (fun w hw => by kernel_rfl) (l' := [(4, .bool false), (166, .bool false), (165, .tuple #[]), (164, .tuple #[]), (163, .tuple #[]), (162, .bool false), (161, .bool false), (160, .tuple #[]), (159, .tuple #[]), (158, .tuple #[]), (157, .tuple #[]), (156, .tuple #[]), (155, .tuple #[]), (154, .tuple #[]), (153, .bool false), (152, .bool false), (151, .int .i64 (aKind s404.a.c x136)), (149, .pointer (some ⟨z32, 0, none⟩)), (150, .int .i64 (x136)), (148, .pointer (some ⟨z31, 0, none⟩)), (143, .bool false), (142, .bool false), (141, .int .i64 (s404.ph)), (140, .pointer (some ⟨z31, 0, none⟩)), (17, .int .i64 (x405)), (11, .int .i64 (x136)), (7, .slice (some ⟨g151, 0, none⟩) L76.length c88), (5, .pointer (some ⟨z31, 0, none⟩))]) (by kernel_rfl) (by kernel_rfl) (by kernel_rfl) (by kernel_rfl) (fun _ _ _ h => h) ⟨_, St.ordP [HeapP z31 z32 s404, RowP (.slice (some ⟨g151, 0, none⟩) L76.length c88) L76] ps hS470 [1, 0] [] (by kernel_rfl)⟩ ?_
                                          intro a563 hF562; clear hF560
                                          refine any_done (by kernel_rfl) ?_
                                          have hF564 : Fr 167 a563 [(4, .bool false)] := hF562.keep [4]
                                          clear hF562
                                          have hS565 : St w0 F0 (ps) w468 := St.ordP [HeapP z31 z32 s404, RowP (.slice (some ⟨g151, 0, none⟩) L76.length c88) L76] ps hS470 [] [0, 1] (by kernel_rfl)
                                          clear hS470
                                          refine thenN ?_
                                          refine wp_ret ?_
                                          obtain rfl := Option.some.inj hm535
                                          refine ev_ret hF564 [4] (.bool false) rfl rfl rfl ?_
                                          exact ⟨rfl, hS565⟩
                                  | false =>
                                    rw [hc415] at hF413
                                    rw [hc415] at hm412
                                    have hm567 := ifF hm412; clear hm412
                                    refine ev_runs 4 hF413 (l' := [(143, .bool false), (142, .tuple #[]), (141, .tuple #[]), (140, .tuple #[]), (139, .bool false), (138, .bool false), (137, .int .i64 (x405)), (17, .int .i64 (x405)), (11, .int .i64 (x136)), (7, .slice (some ⟨g151, 0, none⟩) L76.length c88), (5, .pointer (some ⟨z31, 0, none⟩))]) (w' := w408) (by kernel_rfl) ?_
                                    intro a569 hF568; clear hF413
                                    refine wpList_nil ?_
                                    have hF570 : Fr 167 a569 [(143, .bool false), (142, .tuple #[]), (141, .tuple #[]), (140, .tuple #[]), (17, .int .i64 (x405)), (11, .int .i64 (x136)), (7, .slice (some ⟨g151, 0, none⟩) L76.length c88), (5, .pointer (some ⟨z31, 0, none⟩))] := hF568.keep [5, 7, 11, 17, 140, 141, 142, 143]
                                    clear hF568
                                    refine thenN ?_
                                    refine ev_condF hF570 rfl rfl ?_
                                    refine wp_exit ?_
                                    refine thenE ?_
                                    refine thenE ?_
                                    refine blockE ?_
                                    refine thenN ?_
                                    refine wp_seq ?_
                                    -- draws
                                    cases hc571 : (inR (0 : Int) L76.length) with
                                    | false => rw [hc571] at hm567; cases hm567
                                    | true =>
                                      rw [hc571] at hm567
                                      have hm572 := ifT hm567; clear hm567
                                      have hS573 : St w0 F0 (RowP (.slice (some ⟨g151, 0, none⟩) L76.length c88) L76 :: HeapP z31 z32 s404 :: ps) w408 := St.ordP [HeapP z31 z32 s404, RowP (.slice (some ⟨g151, 0, none⟩) L76.length c88) L76] ps hS410 [1, 0] [] (by kernel_rfl)
                                      clear hS410
                                      have hS574 := hS573.drew; clear hS573
                                      refine any_start (fun w => ∃ qs, St w0 F0 (RowP (.slice (some ⟨g151, 0, none⟩) L76.length c88) L76 :: qs) w) (by kernel_rfl) ?_
                                      refine any_take 0 (.pointer (some ⟨z31, 0, none⟩)) hF570 rfl (by kernel_rfl) rfl (by kernel_rfl) (fun w hw => by kernel_rfl) (l' := [(148, .pointer (some ⟨z31, 0, none⟩)), (143, .bool false), (142, .tuple #[]), (141, .tuple #[]), (140, .tuple #[]), (17, .int .i64 (x405)), (11, .int .i64 (x136)), (7, .slice (some ⟨g151, 0, none⟩) L76.length c88), (5, .pointer (some ⟨z31, 0, none⟩))]) (by kernel_rfl) (by kernel_rfl) (by kernel_rfl) (by kernel_rfl) (fun _ _ _ h => h) ⟨_, hS574⟩ ?_
                                      intro a576 hF575; clear hF570
                                      refine any_take 2 (.int .i64 (x136)) hF575 rfl (by kernel_rfl) rfl (by kernel_rfl) (fun w hw => by kernel_rfl) (l' := [(150, .int .i64 (x136)), (148, .pointer (some ⟨z31, 0, none⟩)), (143, .bool false), (142, .tuple #[]), (141, .tuple #[]), (140, .tuple #[]), (17, .int .i64 (x405)), (11, .int .i64 (x136)), (7, .slice (some ⟨g151, 0, none⟩) L76.length c88), (5, .pointer (some ⟨z31, 0, none⟩))]) (by kernel_rfl) (by kernel_rfl) (by kernel_rfl) (by kernel_rfl) (fun _ _ _ h => h) ⟨_, hS574⟩ ?_
                                      intro a578 hF577; clear hF575
                                      have hS579 : St w0 F0 (HeapP z31 z32 s404 :: RowP (.slice (some ⟨g151, 0, none⟩) L76.length c88) L76 :: ps) (w408.drew) := St.ordP [RowP (.slice (some ⟨g151, 0, none⟩) L76.length c88) L76, HeapP z31 z32 s404] ps hS574 [1, 0] [] (by kernel_rfl)
                                      clear hS574
                                      refine any_call 1 24 #[.pointer (some ⟨z31, 0, none⟩)] hF577 rfl (by kernel_rfl) rfl rfl (by kernel_rfl) rfl (by kernel_rfl) (fun w => by kernel_rfl) ?_
                                      refine (p_Arena hS579).mono ?_
                                      rintro _ w580 ⟨rfl, hS582⟩; clear hS579
                                      refine ⟨⟨_, St.ordP [HeapP z31 z32 s404, RowP (.slice (some ⟨g151, 0, none⟩) L76.length c88) L76] ps hS582 [1, 0] [] (by kernel_rfl)⟩, ?_⟩
                                      intro a581 hF583; clear hF577
                                      have hF584 : Fr 167 a581 [(149, .pointer (some ⟨z32, 0, none⟩)), (150, .int .i64 (x136)), (148, .pointer (some ⟨z31, 0, none⟩)), (143, .bool false), (142, .tuple #[]), (141, .tuple #[]), (140, .tuple #[]), (17, .int .i64 (x405)), (11, .int .i64 (x136)), (7, .slice (some ⟨g151, 0, none⟩) L76.length c88), (5, .pointer (some ⟨z31, 0, none⟩))] := hF583
                                      clear hF583
                                      refine any_call 3 33 #[.pointer (some ⟨z32, 0, none⟩), .int .i64 (x136)] hF584 rfl (by kernel_rfl) rfl rfl (by kernel_rfl) rfl (by kernel_rfl) (fun w => by kernel_rfl) ?_
                                      refine (p_Kind hS582).mono ?_
                                      rintro _ w585 ⟨rfl, hS587⟩; clear hS582
                                      refine ⟨⟨_, St.ordP [HeapP z31 z32 s404, RowP (.slice (some ⟨g151, 0, none⟩) L76.length c88) L76] ps hS587 [1, 0] [] (by kernel_rfl)⟩, ?_⟩
                                      intro a586 hF588; clear hF584
                                      have hF589 : Fr 167 a586 [(151, .int .i64 (aKind s404.a.c x136)), (149, .pointer (some ⟨z32, 0, none⟩)), (150, .int .i64 (x136)), (148, .pointer (some ⟨z31, 0, none⟩)), (143, .bool false), (142, .tuple #[]), (141, .tuple #[]), (140, .tuple #[]), (17, .int .i64 (x405)), (11, .int .i64 (x136)), (7, .slice (some ⟨g151, 0, none⟩) L76.length c88), (5, .pointer (some ⟨z31, 0, none⟩))] := hF588
                                      clear hF588
                                      refine any_take 4 (.bool ((aKind s404.a.c x136) == 5)) hF589 rfl (by kernel_rfl) rfl (by kernel_rfl) (fun w hw => by kernel_rfl) (l' := [(152, .bool ((aKind s404.a.c x136) == 5)), (151, .int .i64 (aKind s404.a.c x136)), (149, .pointer (some ⟨z32, 0, none⟩)), (150, .int .i64 (x136)), (148, .pointer (some ⟨z31, 0, none⟩)), (143, .bool false), (142, .tuple #[]), (141, .tuple #[]), (140, .tuple #[]), (17, .int .i64 (x405)), (11, .int .i64 (x136)), (7, .slice (some ⟨g151, 0, none⟩) L76.length c88), (5, .pointer (some ⟨z31, 0, none⟩))]) (by kernel_rfl) (by kernel_rfl) (by kernel_rfl) (by kernel_rfl) (fun _ _ _ h => h) ⟨_, St.ordP [HeapP z31 z32 s404, RowP (.slice (some ⟨g151, 0, none⟩) L76.length c88) L76] ps hS587 [1, 0] [] (by kernel_rfl)⟩ ?_
                                      intro a591 hF590; clear hF589
                                      refine any_take 5 (.bool ((aKind s404.a.c x136) == 5)) hF590 rfl (by kernel_rfl) rfl (by kernel_rfl) (fun w hw => by kernel_rfl) (l' := [(153, .bool ((aKind s404.a.c x136) == 5)), (152, .bool ((aKind s404.a.c x136) == 5)), (151, .int .i64 (aKind s404.a.c x136)), (149, .pointer (some ⟨z32, 0, none⟩)), (150, .int .i64 (x136)), (148, .pointer (some ⟨z31, 0, none⟩)), (143, .bool false), (142, .tuple #[]), (141, .tuple #[]), (140, .tuple #[]), (17, .int .i64 (x405)), (11, .int .i64 (x136)), (7, .slice (some ⟨g151, 0, none⟩) L76.length c88), (5, .pointer (some ⟨z31, 0, none⟩))]) (by kernel_rfl) (by kernel_rfl) (by kernel_rfl) (by kernel_rfl) (fun _ _ _ h => h) ⟨_, St.ordP [HeapP z31 z32 s404, RowP (.slice (some ⟨g151, 0, none⟩) L76.length c88) L76] ps hS587 [1, 0] [] (by kernel_rfl)⟩ ?_
                                      intro a593 hF592; clear hF590
                                      cases hc594 : ((aKind s404.a.c x136) == 5) with
                                      | true =>
                                        rw [hc594] at hF592
                                        rw [hc594] at hm572
                                        have hm595 := ifT hm572; clear hm572
                                        refine any_take 6 (.pointer (some ⟨z31, 0, none⟩)) hF592 rfl (by kernel_rfl) rfl (by kernel_rfl) (fun w hw => by kernel_rfl) (l' := [(154, .pointer (some ⟨z31, 0, none⟩)), (153, .bool true), (152, .bool true), (151, .int .i64 (aKind s404.a.c x136)), (149, .pointer (some ⟨z32, 0, none⟩)), (150, .int .i64 (x136)), (148, .pointer (some ⟨z31, 0, none⟩)), (143, .bool false), (142, .tuple #[]), (141, .tuple #[]), (140, .tuple #[]), (17, .int .i64 (x405)), (11, .int .i64 (x136)), (7, .slice (some ⟨g151, 0, none⟩) L76.length c88), (5, .pointer (some ⟨z31, 0, none⟩))]) (by kernel_rfl) (by kernel_rfl) (by kernel_rfl) (by kernel_rfl) (fun _ _ _ h => h) ⟨_, St.ordP [HeapP z31 z32 s404, RowP (.slice (some ⟨g151, 0, none⟩) L76.length c88) L76] ps hS587 [1, 0] [] (by kernel_rfl)⟩ ?_
                                        intro a597 hF596; clear hF592
                                        refine any_take 8 (.slice (some ⟨g151, 0, none⟩) L76.length c88) hF596 rfl (by kernel_rfl) rfl (by kernel_rfl) (fun w hw => by kernel_rfl) (l' := [(156, .slice (some ⟨g151, 0, none⟩) L76.length c88), (154, .pointer (some ⟨z31, 0, none⟩)), (153, .bool true), (152, .bool true), (151, .int .i64 (aKind s404.a.c x136)), (149, .pointer (some ⟨z32, 0, none⟩)), (150, .int .i64 (x136)), (148, .pointer (some ⟨z31, 0, none⟩)), (143, .bool false), (142, .tuple #[]), (141, .tuple #[]), (140, .tuple #[]), (17, .int .i64 (x405)), (11, .int .i64 (x136)), (7, .slice (some ⟨g151, 0, none⟩) L76.length c88), (5, .pointer (some ⟨z31, 0, none⟩))]) (by kernel_rfl) (by kernel_rfl) (by kernel_rfl) (by kernel_rfl) (fun _ _ _ h => h) ⟨_, St.ordP [HeapP z31 z32 s404, RowP (.slice (some ⟨g151, 0, none⟩) L76.length c88) L76] ps hS587 [1, 0] [] (by kernel_rfl)⟩ ?_
                                        intro a599 hF598; clear hF596
                                        refine any_take 9 (.pointer (some ⟨g151, (0 : Int).toNat, none⟩)) hF598 rfl (by kernel_rfl) rfl (by kernel_rfl) (fun w hw => run_idx rfl rfl rfl rfl rfl (inR_spec hc571).1 (inR_spec hc571).2 _) (l' := [(157, .pointer (some ⟨g151, (0 : Int).toNat, none⟩)), (156, .slice (some ⟨g151, 0, none⟩) L76.length c88), (154, .pointer (some ⟨z31, 0, none⟩)), (153, .bool true), (152, .bool true), (151, .int .i64 (aKind s404.a.c x136)), (149, .pointer (some ⟨z32, 0, none⟩)), (150, .int .i64 (x136)), (148, .pointer (some ⟨z31, 0, none⟩)), (143, .bool false), (142, .tuple #[]), (141, .tuple #[]), (140, .tuple #[]), (17, .int .i64 (x405)), (11, .int .i64 (x136)), (7, .slice (some ⟨g151, 0, none⟩) L76.length c88), (5, .pointer (some ⟨z31, 0, none⟩))]) (by kernel_rfl) (by kernel_rfl) (by kernel_rfl) (by kernel_rfl) (fun _ _ _ h => h) ⟨_, St.ordP [HeapP z31 z32 s404, RowP (.slice (some ⟨g151, 0, none⟩) L76.length c88) L76] ps hS587 [1, 0] [] (by kernel_rfl)⟩ ?_
                                        intro a601 hF600; clear hF598
                                        refine any_take 10 (.int .i64 (atI L76 (0 : Int))) hF600 rfl (by kernel_rfl) rfl (by kernel_rfl) (fun w hw => run_load1 rfl rfl rfl (hw.elim fun qs hw => hw.atI 0 rfl hc571)) (l' := [(158, .int .i64 (atI L76 (0 : Int))), (157, .pointer (some ⟨g151, (0 : Int).toNat, none⟩)), (156, .slice (some ⟨g151, 0, none⟩) L76.length c88), (154, .pointer (some ⟨z31, 0, none⟩)), (153, .bool true), (152, .bool true), (151, .int .i64 (aKind s404.a.c x136)), (149, .pointer (some ⟨z32, 0, none⟩)), (150, .int .i64 (x136)), (148, .pointer (some ⟨z31, 0, none⟩)), (143, .bool false), (142, .tuple #[]), (141, .tuple #[]), (140, .tuple #[]), (17, .int .i64 (x405)), (11, .int .i64 (x136)), (7, .slice (some ⟨g151, 0, none⟩) L76.length c88), (5, .pointer (some ⟨z31, 0, none⟩))]) (by kernel_rfl) (by kernel_rfl) (by kernel_rfl) (by kernel_rfl) (fun _ _ _ h => h) ⟨_, St.ordP [HeapP z31 z32 s404, RowP (.slice (some ⟨g151, 0, none⟩) L76.length c88) L76] ps hS587 [1, 0] [] (by kernel_rfl)⟩ ?_
                                        intro a603 hF602; clear hF600
                                        refine any_call 7 24 #[.pointer (some ⟨z31, 0, none⟩)] hF602 rfl (by kernel_rfl) rfl rfl (by kernel_rfl) rfl (by kernel_rfl) (fun w => by kernel_rfl) ?_
                                        refine (p_Arena hS587).mono ?_
                                        rintro _ w604 ⟨rfl, hS606⟩; clear hS587
                                        refine ⟨⟨_, St.ordP [HeapP z31 z32 s404, RowP (.slice (some ⟨g151, 0, none⟩) L76.length c88) L76] ps hS606 [1, 0] [] (by kernel_rfl)⟩, ?_⟩
                                        intro a605 hF607; clear hF602
                                        have hF608 : Fr 167 a605 [(155, .pointer (some ⟨z32, 0, none⟩)), (158, .int .i64 (atI L76 (0 : Int))), (157, .pointer (some ⟨g151, (0 : Int).toNat, none⟩)), (156, .slice (some ⟨g151, 0, none⟩) L76.length c88), (154, .pointer (some ⟨z31, 0, none⟩)), (153, .bool true), (152, .bool true), (151, .int .i64 (aKind s404.a.c x136)), (149, .pointer (some ⟨z32, 0, none⟩)), (150, .int .i64 (x136)), (148, .pointer (some ⟨z31, 0, none⟩)), (143, .bool false), (142, .tuple #[]), (141, .tuple #[]), (140, .tuple #[]), (17, .int .i64 (x405)), (11, .int .i64 (x136)), (7, .slice (some ⟨g151, 0, none⟩) L76.length c88), (5, .pointer (some ⟨z31, 0, none⟩))] := hF607
                                        clear hF607
                                        refine any_call 11 33 #[.pointer (some ⟨z32, 0, none⟩), .int .i64 (atI L76 (0 : Int))] hF608 rfl (by kernel_rfl) rfl rfl (by kernel_rfl) rfl (by kernel_rfl) (fun w => by kernel_rfl) ?_
                                        refine (p_Kind hS606).mono ?_
                                        rintro _ w609 ⟨rfl, hS611⟩; clear hS606
                                        refine ⟨⟨_, St.ordP [HeapP z31 z32 s404, RowP (.slice (some ⟨g151, 0, none⟩) L76.length c88) L76] ps hS611 [1, 0] [] (by kernel_rfl)⟩, ?_⟩
                                        intro a610 hF612; clear hF608
                                        have hF613 : Fr 167 a610 [(159, .int .i64 (aKind s404.a.c (atI L76 (0 : Int)))), (155, .pointer (some ⟨z32, 0, none⟩)), (158, .int .i64 (atI L76 (0 : Int))), (157, .pointer (some ⟨g151, (0 : Int).toNat, none⟩)), (156, .slice (some ⟨g151, 0, none⟩) L76.length c88), (154, .pointer (some ⟨z31, 0, none⟩)), (153, .bool true), (152, .bool true), (151, .int .i64 (aKind s404.a.c x136)), (149, .pointer (some ⟨z32, 0, none⟩)), (150, .int .i64 (x136)), (148, .pointer (some ⟨z31, 0, none⟩)), (143, .bool false), (142, .tuple #[]), (141, .tuple #[]), (140, .tuple #[]), (17, .int .i64 (x405)), (11, .int .i64 (x136)), (7, .slice (some ⟨g151, 0, none⟩) L76.length c88), (5, .pointer (some ⟨z31, 0, none⟩))] := hF612
                                        clear hF612
                                        refine any_take 12 (.bool ((aKind s404.a.c (atI L76 (0 : Int))) == 5)) hF613 rfl (by kernel_rfl) rfl (by kernel_rfl) (fun w hw => by kernel_rfl) (l' := [(160, .bool ((aKind s404.a.c (atI L76 (0 : Int))) == 5)), (159, .int .i64 (aKind s404.a.c (atI L76 (0 : Int)))), (155, .pointer (some ⟨z32, 0, none⟩)), (158, .int .i64 (atI L76 (0 : Int))), (157, .pointer (some ⟨g151, (0 : Int).toNat, none⟩)), (156, .slice (some ⟨g151, 0, none⟩) L76.length c88), (154, .pointer (some ⟨z31, 0, none⟩)), (153, .bool true), (152, .bool true), (151, .int .i64 (aKind s404.a.c x136)), (149, .pointer (some ⟨z32, 0, none⟩)), (150, .int .i64 (x136)), (148, .pointer (some ⟨z31, 0, none⟩)), (143, .bool false), (142, .tuple #[]), (141, .tuple #[]), (140, .tuple #[]), (17, .int .i64 (x405)), (11, .int .i64 (x136)), (7, .slice (some ⟨g151, 0, none⟩) L76.length c88), (5, .pointer (some ⟨z31, 0, none⟩))]) (by kernel_rfl) (by kernel_rfl) (by kernel_rfl) (by kernel_rfl) (fun _ _ _ h => h) ⟨_, St.ordP [HeapP z31 z32 s404, RowP (.slice (some ⟨g151, 0, none⟩) L76.length c88) L76] ps hS611 [1, 0] [] (by kernel_rfl)⟩ ?_
                                        intro a615 hF614; clear hF613
                                        refine any_take 13 (.bool ((aKind s404.a.c (atI L76 (0 : Int))) == 5)) hF614 rfl (by kernel_rfl) rfl (by kernel_rfl) (fun w hw => by kernel_rfl) (l' := [(161, .bool ((aKind s404.a.c (atI L76 (0 : Int))) == 5)), (160, .bool ((aKind s404.a.c (atI L76 (0 : Int))) == 5)), (159, .int .i64 (aKind s404.a.c (atI L76 (0 : Int)))), (155, .pointer (some ⟨z32, 0, none⟩)), (158, .int .i64 (atI L76 (0 : Int))), (157, .pointer (some ⟨g151, (0 : Int).toNat, none⟩)), (156, .slice (some ⟨g151, 0, none⟩) L76.length c88), (154, .pointer (some ⟨z31, 0, none⟩)), (153, .bool true), (152, .bool true), (151, .int .i64 (aKind s404.a.c x136)), (149, .pointer (some ⟨z32, 0, none⟩)), (150, .int .i64 (x136)), (148, .pointer (some ⟨z31, 0, none⟩)), (143, .bool false), (142, .tuple #[]), (141, .tuple #[]), (140, .tuple #[]), (17, .int .i64 (x405)), (11, .int .i64 (x136)), (7, .slice (some ⟨g151, 0, none⟩) L76.length c88), (5, .pointer (some ⟨z31, 0, none⟩))]) (by kernel_rfl) (by kernel_rfl) (by kernel_rfl) (by kernel_rfl) (fun _ _ _ h => h) ⟨_, St.ordP [HeapP z31 z32 s404, RowP (.slice (some ⟨g151, 0, none⟩) L76.length c88) L76] ps hS611 [1, 0] [] (by kernel_rfl)⟩ ?_
                                        intro a617 hF616; clear hF614
                                        refine any_take 14 (.bool ((aKind s404.a.c (atI L76 (0 : Int))) == 5)) hF616 rfl (by kernel_rfl) rfl (by kernel_rfl) (fun w hw => by kernel_rfl) (l' := [(162, .bool ((aKind s404.a.c (atI L76 (0 : Int))) == 5)), (161, .bool ((aKind s404.a.c (atI L76 (0 : Int))) == 5)), (160, .bool ((aKind s404.a.c (atI L76 (0 : Int))) == 5)), (159, .int .i64 (aKind s404.a.c (atI L76 (0 : Int)))), (155, .pointer (some ⟨z32, 0, none⟩)), (158, .int .i64 (atI L76 (0 : Int))), (157, .pointer (some ⟨g151, (0 : Int).toNat, none⟩)), (156, .slice (some ⟨g151, 0, none⟩) L76.length c88), (154, .pointer (some ⟨z31, 0, none⟩)), (153, .bool true), (152, .bool true), (151, .int .i64 (aKind s404.a.c x136)), (149, .pointer (some ⟨z32, 0, none⟩)), (150, .int .i64 (x136)), (148, .pointer (some ⟨z31, 0, none⟩)), (143, .bool false), (142, .tuple #[]), (141, .tuple #[]), (140, .tuple #[]), (17, .int .i64 (x405)), (11, .int .i64 (x136)), (7, .slice (some ⟨g151, 0, none⟩) L76.length c88), (5, .pointer (some ⟨z31, 0, none⟩))]) (by kernel_rfl) (by kernel_rfl) (by kernel_rfl) (by kernel_rfl) (fun _ _ _ h => h) ⟨_, St.ordP [HeapP z31 z32 s404, RowP (.slice (some ⟨g151, 0, none⟩) L76.length c88) L76] ps hS611 [1, 0] [] (by kernel_rfl)⟩ ?_
                                        intro a619 hF618; clear hF616
                                        cases hc620 : ((aKind s404.a.c (atI L76 (0 : Int))) == 5) with
                                        | true =>
                                          rw [hc620] at hF618
                                          rw [hc620] at hm595
                                          have hm621 := ifT hm595; clear hm595
                                          refine any_take 15 (.pointer (some ⟨z31, 0, none⟩)) hF618 rfl (by kernel_rfl) rfl (by kernel_rfl) (fun w hw => by kernel_rfl) (l' := [(163, .pointer (some ⟨z31, 0, none⟩)), (162, .bool true), (161, .bool true), (160, .bool true), (159, .int .i64 (aKind s404.a.c (atI L76 (0 : Int)))), (155, .pointer (some ⟨z32, 0, none⟩)), (158, .int .i64 (atI L76 (0 : Int))), (157, .pointer (some ⟨g151, (0 : Int).toNat, none⟩)), (156, .slice (some ⟨g151, 0, none⟩) L76.length c88), (154, .pointer (some ⟨z31, 0, none⟩)), (153, .bool true), (152, .bool true), (151, .int .i64 (aKind s404.a.c x136)), (149, .pointer (some ⟨z32, 0, none⟩)), (150, .int .i64 (x136)), (148, .pointer (some ⟨z31, 0, none⟩)), (143, .bool false), (142, .tuple #[]), (141, .tuple #[]), (140, .tuple #[]), (17, .int .i64 (x405)), (11, .int .i64 (x136)), (7, .slice (some ⟨g151, 0, none⟩) L76.length c88), (5, .pointer (some ⟨z31, 0, none⟩))]) (by kernel_rfl) (by kernel_rfl) (by kernel_rfl) (by kernel_rfl) (fun _ _ _ h => h) ⟨_, St.ordP [HeapP z31 z32 s404, RowP (.slice (some ⟨g151, 0, none⟩) L76.length c88) L76] ps hS611 [1, 0] [] (by kernel_rfl)⟩ ?_
                                          intro a623 hF622; clear hF618
                                          refine any_call 16 34 #[.pointer (some ⟨z31, 0, none⟩)] hF622 rfl (by kernel_rfl) rfl rfl (by kernel_rfl) rfl (by kernel_rfl) (fun w => by kernel_rfl) ?_
                                          refine (p_Cycles hS611).mono ?_
                                          rintro _ w624 ⟨rfl, hS626⟩; clear hS611
                                          refine ⟨⟨_, St.ordP [HeapP z31 z32 s404, RowP (.slice (some ⟨g151, 0, none⟩) L76.length c88) L76] ps hS626 [1, 0] [] (by kernel_rfl)⟩, ?_⟩
                                          intro a625 hF627; clear hF622
                                          have hF628 : Fr 167 a625 [(164, .int .i64 (s404.cy)), (163, .pointer (some ⟨z31, 0, none⟩)), (162, .bool true), (161, .bool true), (160, .bool true), (159, .int .i64 (aKind s404.a.c (atI L76 (0 : Int)))), (155, .pointer (some ⟨z32, 0, none⟩)), (158, .int .i64 (atI L76 (0 : Int))), (157, .pointer (some ⟨g151, (0 : Int).toNat, none⟩)), (156, .slice (some ⟨g151, 0, none⟩) L76.length c88), (154, .pointer (some ⟨z31, 0, none⟩)), (153, .bool true), (152, .bool true), (151, .int .i64 (aKind s404.a.c x136)), (149, .pointer (some ⟨z32, 0, none⟩)), (150, .int .i64 (x136)), (148, .pointer (some ⟨z31, 0, none⟩)), (143, .bool false), (142, .tuple #[]), (141, .tuple #[]), (140, .tuple #[]), (17, .int .i64 (x405)), (11, .int .i64 (x136)), (7, .slice (some ⟨g151, 0, none⟩) L76.length c88), (5, .pointer (some ⟨z31, 0, none⟩))] := hF627
                                          clear hF627
                                          refine any_take 17 (.bool (s404.cy == 1)) hF628 rfl (by kernel_rfl) rfl (by kernel_rfl) (fun w hw => by kernel_rfl) (l' := [(165, .bool (s404.cy == 1)), (164, .int .i64 (s404.cy)), (163, .pointer (some ⟨z31, 0, none⟩)), (162, .bool true), (161, .bool true), (160, .bool true), (159, .int .i64 (aKind s404.a.c (atI L76 (0 : Int)))), (155, .pointer (some ⟨z32, 0, none⟩)), (158, .int .i64 (atI L76 (0 : Int))), (157, .pointer (some ⟨g151, (0 : Int).toNat, none⟩)), (156, .slice (some ⟨g151, 0, none⟩) L76.length c88), (154, .pointer (some ⟨z31, 0, none⟩)), (153, .bool true), (152, .bool true), (151, .int .i64 (aKind s404.a.c x136)), (149, .pointer (some ⟨z32, 0, none⟩)), (150, .int .i64 (x136)), (148, .pointer (some ⟨z31, 0, none⟩)), (143, .bool false), (142, .tuple #[]), (141, .tuple #[]), (140, .tuple #[]), (17, .int .i64 (x405)), (11, .int .i64 (x136)), (7, .slice (some ⟨g151, 0, none⟩) L76.length c88), (5, .pointer (some ⟨z31, 0, none⟩))]) (by kernel_rfl) (by kernel_rfl) (by kernel_rfl) (by kernel_rfl) (fun _ _ _ h => h) ⟨_, St.ordP [HeapP z31 z32 s404, RowP (.slice (some ⟨g151, 0, none⟩) L76.length c88) L76] ps hS626 [1, 0] [] (by kernel_rfl)⟩ ?_
                                          intro a630 hF629; clear hF628
                                          refine any_take 18 (.bool (s404.cy == 1)) hF629 rfl (by kernel_rfl) rfl (by kernel_rfl) (fun w hw => by kernel_rfl) (l' := [(166, .bool (s404.cy == 1)), (165, .bool (s404.cy == 1)), (164, .int .i64 (s404.cy)), (163, .pointer (some ⟨z31, 0, none⟩)), (162, .bool true), (161, .bool true), (160, .bool true), (159, .int .i64 (aKind s404.a.c (atI L76 (0 : Int)))), (155, .pointer (some ⟨z32, 0, none⟩)), (158, .int .i64 (atI L76 (0 : Int))), (157, .pointer (some ⟨g151, (0 : Int).toNat, none⟩)), (156, .slice (some ⟨g151, 0, none⟩) L76.length c88), (154, .pointer (some ⟨z31, 0, none⟩)), (153, .bool true), (152, .bool true), (151, .int .i64 (aKind s404.a.c x136)), (149, .pointer (some ⟨z32, 0, none⟩)), (150, .int .i64 (x136)), (148, .pointer (some ⟨z31, 0, none⟩)), (143, .bool false), (142, .tuple #[]), (141, .tuple #[]), (140, .tuple #[]), (17, .int .i64 (x405)), (11, .int .i64 (x136)), (7, .slice (some ⟨g151, 0, none⟩) L76.length c88), (5, .pointer (some ⟨z31, 0, none⟩))]) (by kernel_rfl) (by kernel_rfl) (by kernel_rfl) (by kernel_rfl) (fun _ _ _ h => h) ⟨_, St.ordP [HeapP z31 z32 s404, RowP (.slice (some ⟨g151, 0, none⟩) L76.length c88) L76] ps hS626 [1, 0] [] (by kernel_rfl)⟩ ?_
                                          intro a632 hF631; clear hF629
                                          refine any_take 19 (.bool (s404.cy == 1)) hF631 rfl (by kernel_rfl) rfl (by kernel_rfl) (fun w hw => by kernel_rfl) (l' := [(4, .bool (s404.cy == 1)), (166, .bool (s404.cy == 1)), (165, .bool (s404.cy == 1)), (164, .int .i64 (s404.cy)), (163, .pointer (some ⟨z31, 0, none⟩)), (162, .bool true), (161, .bool true), (160, .bool true), (159, .int .i64 (aKind s404.a.c (atI L76 (0 : Int)))), (155, .pointer (some ⟨z32, 0, none⟩)), (158, .int .i64 (atI L76 (0 : Int))), (157, .pointer (some ⟨g151, (0 : Int).toNat, none⟩)), (156, .slice (some ⟨g151, 0, none⟩) L76.length c88), (154, .pointer (some ⟨z31, 0, none⟩)), (153, .bool true), (152, .bool true), (151, .int .i64 (aKind s404.a.c x136)), (149, .pointer (some ⟨z32, 0, none⟩)), (150, .int .i64 (x136)), (148, .pointer (some ⟨z31, 0, none⟩)), (143, .bool false), (142, .tuple #[]), (141, .tuple #[]), (140, .tuple #[]), (17, .int .i64 (x405)), (11, .int .i64 (x136)), (7, .slice (some ⟨g151, 0, none⟩) L76.length c88), (5, .pointer (some ⟨z31, 0, none⟩))]) (by kernel_rfl) (by kernel_rfl) (by kernel_rfl) (by kernel_rfl) (fun _ _ _ h => h) ⟨_, St.ordP [HeapP z31 z32 s404, RowP (.slice (some ⟨g151, 0, none⟩) L76.length c88) L76] ps hS626 [1, 0] [] (by kernel_rfl)⟩ ?_
                                          intro a634 hF633; clear hF631
                                          refine any_done (by kernel_rfl) ?_
                                          have hF635 : Fr 167 a634 [(4, .bool (s404.cy == 1))] := hF633.keep [4]
                                          clear hF633
                                          have hS636 : St w0 F0 (ps) w624 := St.ordP [HeapP z31 z32 s404, RowP (.slice (some ⟨g151, 0, none⟩) L76.length c88) L76] ps hS626 [] [0, 1] (by kernel_rfl)
                                          clear hS626
                                          refine thenN ?_
                                          refine wp_ret ?_
                                          obtain rfl := Option.some.inj hm621
                                          refine ev_ret hF635 [4] (.bool (s404.cy == 1)) rfl rfl rfl ?_
                                          exact ⟨rfl, hS636⟩
                                        | false =>
                                          rw [hc620] at hF618
                                          rw [hc620] at hm595
                                          have hm638 := ifF hm595; clear hm595
                                          refine any_pass 15 hF618 rfl (by kernel_rfl) (l' := [(163, .tuple #[]), (162, .bool false), (161, .bool false), (160, .bool false), (159, .int .i64 (aKind s404.a.c (atI L76 (0 : Int)))), (155, .pointer (some ⟨z32, 0, none⟩)), (158, .int .i64 (atI L76 (0 : Int))), (157, .pointer (some ⟨g151, (0 : Int).toNat, none⟩)), (156, .slice (some ⟨g151, 0, none⟩) L76.length c88), (154, .pointer (some ⟨z31, 0, none⟩)), (153, .bool true), (152, .bool true), (151, .int .i64 (aKind s404.a.c x136)), (149, .pointer (some ⟨z32, 0, none⟩)), (150, .int .i64 (x136)), (148, .pointer (some ⟨z31, 0, none⟩)), (143, .bool false), (142, .tuple #[]), (141, .tuple #[]), (140, .tuple #[]), (17, .int .i64 (x405)), (11, .int .i64 (x136)), (7, .slice (some ⟨g151, 0, none⟩) L76.length c88), (5, .pointer (some ⟨z31, 0, none⟩))]) (by kernel_rfl) (by kernel_rfl) (by kernel_rfl) (by kernel_rfl) (fun _ _ _ h => h) ⟨_, St.ordP [HeapP z31 z32 s404, RowP (.slice (some ⟨g151, 0, none⟩) L76.length c88) L76] ps hS611 [1, 0] [] (by kernel_rfl)⟩ ?_
                                          intro a640 hF639; clear hF618
                                          refine any_pass 16 hF639 rfl (by kernel_rfl) (l' := [(164, .tuple #[]), (163, .tuple #[]), (162, .bool false), (161, .bool false), (160, .bool false), (159, .int .i64 (aKind s404.a.c (atI L76 (0 : Int)))), (155, .pointer (some ⟨z32, 0, none⟩)), (158, .int .i64 (atI L76 (0 : Int))), (157, .pointer (some ⟨g151, (0 : Int).toNat, none⟩)), (156, .slice (some ⟨g151, 0, none⟩) L76.length c88), (154, .pointer (some ⟨z31, 0, none⟩)), (153, .bool true), (152, .bool true), (151, .int .i64 (aKind s404.a.c x136)), (149, .pointer (some ⟨z32, 0, none⟩)), (150, .int .i64 (x136)), (148, .pointer (some ⟨z31, 0, none⟩)), (143, .bool false), (142, .tuple #[]), (141, .tuple #[]), (140, .tuple #[]), (17, .int .i64 (x405)), (11, .int .i64 (x136)), (7, .slice (some ⟨g151, 0, none⟩) L76.length c88), (5, .pointer (some ⟨z31, 0, none⟩))]) (by kernel_rfl) (by kernel_rfl) (by kernel_rfl) (by kernel_rfl) (fun _ _ _ h => h) ⟨_, St.ordP [HeapP z31 z32 s404, RowP (.slice (some ⟨g151, 0, none⟩) L76.length c88) L76] ps hS611 [1, 0] [] (by kernel_rfl)⟩ ?_
                                          intro a642 hF641; clear hF639
                                          refine any_pass 17 hF641 rfl (by kernel_rfl) (l' := [(165, .tuple #[]), (164, .tuple #[]), (163, .tuple #[]), (162, .bool false), (161, .bool false), (160, .bool false), (159, .int .i64 (aKind s404.a.c (atI L76 (0 : Int)))), (155, .pointer (some ⟨z32, 0, none⟩)), (158, .int .i64 (atI L76 (0 : Int))), (157, .pointer (some ⟨g151, (0 : Int).toNat, none⟩)), (156, .slice (some ⟨g151, 0, none⟩) L76.length c88), (154, .pointer (some ⟨z31, 0, none⟩)), (153, .bool true), (152, .bool true), (151, .int .i64 (aKind s404.a.c x136)), (149, .pointer (some ⟨z32, 0, none⟩)), (150, .int .i64 (x136)), (148, .pointer (some ⟨z31, 0, none⟩)), (143, .bool false), (142, .tuple #[]), (141, .tuple #[]), (140, .tuple #[]), (17, .int .i64 (x405)), (11, .int .i64 (x136)), (7, .slice (some ⟨g151, 0, none⟩) L76.length c88), (5, .pointer (some ⟨z31, 0, none⟩))]) (by kernel_rfl) (by kernel_rfl) (by kernel_rfl) (by kernel_rfl) (fun _ _ _ h => h) ⟨_, St.ordP [HeapP z31 z32 s404, RowP (.slice (some ⟨g151, 0, none⟩) L76.length c88) L76] ps hS611 [1, 0] [] (by kernel_rfl)⟩ ?_
                                          intro a644 hF643; clear hF641
                                          refine any_take 18 (.bool false) hF643 rfl (by kernel_rfl) rfl (by kernel_rfl) (fun w hw => by kernel_rfl) (l' := [(166, .bool false), (165, .tuple #[]), (164, .tuple #[]), (163, .tuple #[]), (162, .bool false), (161, .bool false), (160, .bool false), (159, .int .i64 (aKind s404.a.c (atI L76 (0 : Int)))), (155, .pointer (some ⟨z32, 0, none⟩)), (158, .int .i64 (atI L76 (0 : Int))), (157, .pointer (some ⟨g151, (0 : Int).toNat, none⟩)), (156, .slice (some ⟨g151, 0, none⟩) L76.length c88), (154, .pointer (some ⟨z31, 0, none⟩)), (153, .bool true), (152, .bool true), (151, .int .i64 (aKind s404.a.c x136)), (149, .pointer (some ⟨z32, 0, none⟩)), (150, .int .i64 (x136)), (148, .pointer (some ⟨z31, 0, none⟩)), (143, .bool false), (142, .tuple #[]), (141, .tuple #[]), (140, .tuple #[]), (17, .int .i64 (x405)), (11, .int .i64 (x136)), (7, .slice (some ⟨g151, 0, none⟩) L76.length c88), (5, .pointer (some ⟨z31, 0, none⟩))]) (by kernel_rfl) (by kernel_rfl) (by kernel_rfl) (by kernel_rfl) (fun _ _ _ h => h) ⟨_, St.ordP [HeapP z31 z32 s404, RowP (.slice (some ⟨g151, 0, none⟩) L76.length c88) L76] ps hS611 [1, 0] [] (by kernel_rfl)⟩ ?_
                                          intro a646 hF645; clear hF643
                                          refine any_take 19 (.bool false) hF645 rfl (by kernel_rfl) rfl (by kernel_rfl) (fun w hw => by kernel_rfl) (l' := [(4, .bool false), (166, .bool false), (165, .tuple #[]), (164, .tuple #[]), (163, .tuple #[]), (162, .bool false), (161, .bool false), (160, .bool false), (159, .int .i64 (aKind s404.a.c (atI L76 (0 : Int)))), (155, .pointer (some ⟨z32, 0, none⟩)), (158, .int .i64 (atI L76 (0 : Int))), (157, .pointer (some ⟨g151, (0 : Int).toNat, none⟩)), (156, .slice (some ⟨g151, 0, none⟩) L76.length c88), (154, .pointer (some ⟨z31, 0, none⟩)), (153, .bool true), (152, .bool true), (151, .int .i64 (aKind s404.a.c x136)), (149, .pointer (some ⟨z32, 0, none⟩)), (150, .int .i64 (x136)), (148, .pointer (some ⟨z31, 0, none⟩)), (143, .bool false), (142, .tuple #[]), (141, .tuple #[]), (140, .tuple #[]), (17, .int .i64 (x405)), (11, .int .i64 (x136)), (7, .slice (some ⟨g151, 0, none⟩) L76.length c88), (5, .pointer (some ⟨z31, 0, none⟩))]) (by kernel_rfl) (by kernel_rfl) (by kernel_rfl) (by kernel_rfl) (fun _ _ _ h => h) ⟨_, St.ordP [HeapP z31 z32 s404, RowP (.slice (some ⟨g151, 0, none⟩) L76.length c88) L76] ps hS611 [1, 0] [] (by kernel_rfl)⟩ ?_
                                          intro a648 hF647; clear hF645
                                          refine any_done (by kernel_rfl) ?_
                                          have hF649 : Fr 167 a648 [(4, .bool false)] := hF647.keep [4]
                                          clear hF647
                                          have hS650 : St w0 F0 (ps) w609 := St.ordP [HeapP z31 z32 s404, RowP (.slice (some ⟨g151, 0, none⟩) L76.length c88) L76] ps hS611 [] [0, 1] (by kernel_rfl)
                                          clear hS611
                                          refine thenN ?_
                                          refine wp_ret ?_
                                          obtain rfl := Option.some.inj hm638
                                          refine ev_ret hF649 [4] (.bool false) rfl rfl rfl ?_
                                          exact ⟨rfl, hS650⟩
                                      | false =>
                                        rw [hc594] at hF592
                                        rw [hc594] at hm572
                                        have hm652 := ifF hm572; clear hm572
                                        refine any_pass 6 hF592 rfl (by kernel_rfl) (l' := [(154, .tuple #[]), (153, .bool false), (152, .bool false), (151, .int .i64 (aKind s404.a.c x136)), (149, .pointer (some ⟨z32, 0, none⟩)), (150, .int .i64 (x136)), (148, .pointer (some ⟨z31, 0, none⟩)), (143, .bool false), (142, .tuple #[]), (141, .tuple #[]), (140, .tuple #[]), (17, .int .i64 (x405)), (11, .int .i64 (x136)), (7, .slice (some ⟨g151, 0, none⟩) L76.length c88), (5, .pointer (some ⟨z31, 0, none⟩))]) (by kernel_rfl) (by kernel_rfl) (by kernel_rfl) (by kernel_rfl) (fun _ _ _ h => h) ⟨_, St.ordP [HeapP z31 z32 s404, RowP (.slice (some ⟨g151, 0, none⟩) L76.length c88) L76] ps hS587 [1, 0] [] (by kernel_rfl)⟩ ?_
                                        intro a654 hF653; clear hF592
                                        refine any_pass 7 hF653 rfl (by kernel_rfl) (l' := [(155, .tuple #[]), (154, .tuple #[]), (153, .bool false), (152, .bool false), (151, .int .i64 (aKind s404.a.c x136)), (149, .pointer (some ⟨z32, 0, none⟩)), (150, .int .i64 (x136)), (148, .pointer (some ⟨z31, 0, none⟩)), (143, .bool false), (142, .tuple #[]), (141, .tuple #[]), (140, .tuple #[]), (17, .int .i64 (x405)), (11, .int .i64 (x136)), (7, .slice (some ⟨g151, 0, none⟩) L76.length c88), (5, .pointer (some ⟨z31, 0, none⟩))]) (by kernel_rfl) (by kernel_rfl) (by kernel_rfl) (by kernel_rfl) (fun _ _ _ h => h) ⟨_, St.ordP [HeapP z31 z32 s404, RowP (.slice (some ⟨g151, 0, none⟩) L76.length c88) L76] ps hS587 [1, 0] [] (by kernel_rfl)⟩ ?_
                                        intro a656 hF655; clear hF653
                                        refine any_pass 8 hF655 rfl (by kernel_rfl) (l' := [(156, .tuple #[]), (155, .tuple #[]), (154, .tuple #[]), (153, .bool false), (152, .bool false), (151, .int .i64 (aKind s404.a.c x136)), (149, .pointer (some ⟨z32, 0, none⟩)), (150, .int .i64 (x136)), (148, .pointer (some ⟨z31, 0, none⟩)), (143, .bool false), (142, .tuple #[]), (141, .tuple #[]), (140, .tuple #[]), (17, .int .i64 (x405)), (11, .int .i64 (x136)), (7, .slice (some ⟨g151, 0, none⟩) L76.length c88), (5, .pointer (some ⟨z31, 0, none⟩))]) (by kernel_rfl) (by kernel_rfl) (by kernel_rfl) (by kernel_rfl) (fun _ _ _ h => h) ⟨_, St.ordP [HeapP z31 z32 s404, RowP (.slice (some ⟨g151, 0, none⟩) L76.length c88) L76] ps hS587 [1, 0] [] (by kernel_rfl)⟩ ?_
                                        intro a658 hF657; clear hF655
                                        refine any_pass 9 hF657 rfl (by kernel_rfl) (l' := [(157, .tuple #[]), (156, .tuple #[]), (155, .tuple #[]), (154, .tuple #[]), (153, .bool false), (152, .bool false), (151, .int .i64 (aKind s404.a.c x136)), (149, .pointer (some ⟨z32, 0, none⟩)), (150, .int .i64 (x136)), (148, .pointer (some ⟨z31, 0, none⟩)), (143, .bool false), (142, .tuple #[]), (141, .tuple #[]), (140, .tuple #[]), (17, .int .i64 (x405)), (11, .int .i64 (x136)), (7, .slice (some ⟨g151, 0, none⟩) L76.length c88), (5, .pointer (some ⟨z31, 0, none⟩))]) (by kernel_rfl) (by kernel_rfl) (by kernel_rfl) (by kernel_rfl) (fun _ _ _ h => h) ⟨_, St.ordP [HeapP z31 z32 s404, RowP (.slice (some ⟨g151, 0, none⟩) L76.length c88) L76] ps hS587 [1, 0] [] (by kernel_rfl)⟩ ?_
                                        intro a660 hF659; clear hF657
                                        refine any_pass 10 hF659 rfl (by kernel_rfl) (l' := [(158, .tuple #[]), (157, .tuple #[]), (156, .tuple #[]), (155, .tuple #[]), (154, .tuple #[]), (153, .bool false), (152, .bool false), (151, .int .i64 (aKind s404.a.c x136)), (149, .pointer (some ⟨z32, 0, none⟩)), (150, .int .i64 (x136)), (148, .pointer (some ⟨z31, 0, none⟩)), (143, .bool false), (142, .tuple #[]), (141, .tuple #[]), (140, .tuple #[]), (17, .int .i64 (x405)), (11, .int .i64 (x136)), (7, .slice (some ⟨g151, 0, none⟩) L76.length c88), (5, .pointer (some ⟨z31, 0, none⟩))]) (by kernel_rfl) (by kernel_rfl) (by kernel_rfl) (by kernel_rfl) (fun _ _ _ h => h) ⟨_, St.ordP [HeapP z31 z32 s404, RowP (.slice (some ⟨g151, 0, none⟩) L76.length c88) L76] ps hS587 [1, 0] [] (by kernel_rfl)⟩ ?_
                                        intro a662 hF661; clear hF659
                                        refine any_pass 11 hF661 rfl (by kernel_rfl) (l' := [(159, .tuple #[]), (158, .tuple #[]), (157, .tuple #[]), (156, .tuple #[]), (155, .tuple #[]), (154, .tuple #[]), (153, .bool false), (152, .bool false), (151, .int .i64 (aKind s404.a.c x136)), (149, .pointer (some ⟨z32, 0, none⟩)), (150, .int .i64 (x136)), (148, .pointer (some ⟨z31, 0, none⟩)), (143, .bool false), (142, .tuple #[]), (141, .tuple #[]), (140, .tuple #[]), (17, .int .i64 (x405)), (11, .int .i64 (x136)), (7, .slice (some ⟨g151, 0, none⟩) L76.length c88), (5, .pointer (some ⟨z31, 0, none⟩))]) (by kernel_rfl) (by kernel_rfl) (by kernel_rfl) (by kernel_rfl) (fun _ _ _ h => h) ⟨_, St.ordP [HeapP z31 z32 s404, RowP (.slice (some ⟨g151, 0, none⟩) L76.length c88) L76] ps hS587 [1, 0] [] (by kernel_rfl)⟩ ?_
                                        intro a664 hF663; clear hF661
                                        refine any_pass 12 hF663 rfl (by kernel_rfl) (l' := [(160, .tuple #[]), (159, .tuple #[]), (158, .tuple #[]), (157, .tuple #[]), (156, .tuple #[]), (155, .tuple #[]), (154, .tuple #[]), (153, .bool false), (152, .bool false), (151, .int .i64 (aKind s404.a.c x136)), (149, .pointer (some ⟨z32, 0, none⟩)), (150, .int .i64 (x136)), (148, .pointer (some ⟨z31, 0, none⟩)), (143, .bool false), (142, .tuple #[]), (141, .tuple #[]), (140, .tuple #[]), (17, .int .i64 (x405)), (11, .int .i64 (x136)), (7, .slice (some ⟨g151, 0, none⟩) L76.length c88), (5, .pointer (some ⟨z31, 0, none⟩))]) (by kernel_rfl) (by kernel_rfl) (by kernel_rfl) (by kernel_rfl) (fun _ _ _ h => h) ⟨_, St.ordP [HeapP z31 z32 s404, RowP (.slice (some ⟨g151, 0, none⟩) L76.length c88) L76] ps hS587 [1, 0] [] (by kernel_rfl)⟩ ?_
                                        intro a666 hF665; clear hF663
                                        refine any_take 13 (.bool false) hF665 rfl (by kernel_rfl) rfl (by kernel_rfl) (fun w hw => by kernel_rfl) (l' := [(161, .bool false), (160, .tuple #[]), (159, .tuple #[]), (158, .tuple #[]), (157, .tuple #[]), (156, .tuple #[]), (155, .tuple #[]), (154, .tuple #[]), (153, .bool false), (152, .bool false), (151, .int .i64 (aKind s404.a.c x136)), (149, .pointer (some ⟨z32, 0, none⟩)), (150, .int .i64 (x136)), (148, .pointer (some ⟨z31, 0, none⟩)), (143, .bool false), (142, .tuple #[]), (141, .tuple #[]), (140, .tuple #[]), (17, .int .i64 (x405)), (11, .int .i64 (x136)), (7, .slice (some ⟨g151, 0, none⟩) L76.length c88), (5, .pointer (some ⟨z31, 0, none⟩))]) (by kernel_rfl) (by kernel_rfl) (by kernel_rfl) (by kernel_rfl) (fun _ _ _ h => h) ⟨_, St.ordP [HeapP z31 z32 s404, RowP (.slice (some ⟨g151, 0, none⟩) L76.length c88) L76] ps hS587 [1, 0] [] (by kernel_rfl)⟩ ?_
                                        intro a668 hF667; clear hF665
                                        refine any_take 14 (.bool false) hF667 rfl (by kernel_rfl) rfl (by kernel_rfl) (fun w hw => by kernel_rfl) (l' := [(162, .bool false), (161, .bool false), (160, .tuple #[]), (159, .tuple #[]), (158, .tuple #[]), (157, .tuple #[]), (156, .tuple #[]), (155, .tuple #[]), (154, .tuple #[]), (153, .bool false), (152, .bool false), (151, .int .i64 (aKind s404.a.c x136)), (149, .pointer (some ⟨z32, 0, none⟩)), (150, .int .i64 (x136)), (148, .pointer (some ⟨z31, 0, none⟩)), (143, .bool false), (142, .tuple #[]), (141, .tuple #[]), (140, .tuple #[]), (17, .int .i64 (x405)), (11, .int .i64 (x136)), (7, .slice (some ⟨g151, 0, none⟩) L76.length c88), (5, .pointer (some ⟨z31, 0, none⟩))]) (by kernel_rfl) (by kernel_rfl) (by kernel_rfl) (by kernel_rfl) (fun _ _ _ h => h) ⟨_, St.ordP [HeapP z31 z32 s404, RowP (.slice (some ⟨g151, 0, none⟩) L76.length c88) L76] ps hS587 [1, 0] [] (by kernel_rfl)⟩ ?_
                                        intro a670 hF669; clear hF667
                                        refine any_pass 15 hF669 rfl (by kernel_rfl) (l' := [(163, .tuple #[]), (162, .bool false), (161, .bool false), (160, .tuple #[]), (159, .tuple #[]), (158, .tuple #[]), (157, .tuple #[]), (156, .tuple #[]), (155, .tuple #[]), (154, .tuple #[]), (153, .bool false), (152, .bool false), (151, .int .i64 (aKind s404.a.c x136)), (149, .pointer (some ⟨z32, 0, none⟩)), (150, .int .i64 (x136)), (148, .pointer (some ⟨z31, 0, none⟩)), (143, .bool false), (142, .tuple #[]), (141, .tuple #[]), (140, .tuple #[]), (17, .int .i64 (x405)), (11, .int .i64 (x136)), (7, .slice (some ⟨g151, 0, none⟩) L76.length c88), (5, .pointer (some ⟨z31, 0, none⟩))]) (by kernel_rfl) (by kernel_rfl) (by kernel_rfl) (by kernel_rfl) (fun _ _ _ h => h) ⟨_, St.ordP [HeapP z31 z32 s404, RowP (.slice (some ⟨g151, 0, none⟩) L76.length c88) L76] ps hS587 [1, 0] [] (by kernel_rfl)⟩ ?_
                                        intro a672 hF671; clear hF669
                                        refine any_pass 16 hF671 rfl (by kernel_rfl) (l' := [(164, .tuple #[]), (163, .tuple #[]), (162, .bool false), (161, .bool false), (160, .tuple #[]), (159, .tuple #[]), (158, .tuple #[]), (157, .tuple #[]), (156, .tuple #[]), (155, .tuple #[]), (154, .tuple #[]), (153, .bool false), (152, .bool false), (151, .int .i64 (aKind s404.a.c x136)), (149, .pointer (some ⟨z32, 0, none⟩)), (150, .int .i64 (x136)), (148, .pointer (some ⟨z31, 0, none⟩)), (143, .bool false), (142, .tuple #[]), (141, .tuple #[]), (140, .tuple #[]), (17, .int .i64 (x405)), (11, .int .i64 (x136)), (7, .slice (some ⟨g151, 0, none⟩) L76.length c88), (5, .pointer (some ⟨z31, 0, none⟩))]) (by kernel_rfl) (by kernel_rfl) (by kernel_rfl) (by kernel_rfl) (fun _ _ _ h => h) ⟨_, St.ordP [HeapP z31 z32 s404, RowP (.slice (some ⟨g151, 0, none⟩) L76.length c88) L76] ps hS587 [1, 0] [] (by kernel_rfl)⟩ ?_
                                        intro a674 hF673; clear hF671
                                        refine any_pass 17 hF673 rfl (by kernel_rfl) (l' := [(165, .tuple #[]), (164, .tuple #[]), (163, .tuple #[]), (162, .bool false), (161, .bool false), (160, .tuple #[]), (159, .tuple #[]), (158, .tuple #[]), (157, .tuple #[]), (156, .tuple #[]), (155, .tuple #[]), (154, .tuple #[]), (153, .bool false), (152, .bool false), (151, .int .i64 (aKind s404.a.c x136)), (149, .pointer (some ⟨z32, 0, none⟩)), (150, .int .i64 (x136)), (148, .pointer (some ⟨z31, 0, none⟩)), (143, .bool false), (142, .tuple #[]), (141, .tuple #[]), (140, .tuple #[]), (17, .int .i64 (x405)), (11, .int .i64 (x136)), (7, .slice (some ⟨g151, 0, none⟩) L76.length c88), (5, .pointer (some ⟨z31, 0, none⟩))]) (by kernel_rfl) (by kernel_rfl) (by kernel_rfl) (by kernel_rfl) (fun _ _ _ h => h) ⟨_, St.ordP [HeapP z31 z32 s404, RowP (.slice (some ⟨g151, 0, none⟩) L76.length c88) L76] ps hS587 [1, 0] [] (by kernel_rfl)⟩ ?_
                                        intro a676 hF675; clear hF673
                                        refine any_take 18 (.bool false) hF675 rfl (by kernel_rfl) rfl (by kernel_rfl) (fun w hw => by kernel_rfl) (l' := [(166, .bool false), (165, .tuple #[]), (164, .tuple #[]), (163, .tuple #[]), (162, .bool false), (161, .bool false), (160, .tuple #[]), (159, .tuple #[]), (158, .tuple #[]), (157, .tuple #[]), (156, .tuple #[]), (155, .tuple #[]), (154, .tuple #[]), (153, .bool false), (152, .bool false), (151, .int .i64 (aKind s404.a.c x136)), (149, .pointer (some ⟨z32, 0, none⟩)), (150, .int .i64 (x136)), (148, .pointer (some ⟨z31, 0, none⟩)), (143, .bool false), (142, .tuple #[]), (141, .tuple #[]), (140, .tuple #[]), (17, .int .i64 (x405)), (11, .int .i64 (x136)), (7, .slice (some ⟨g151, 0, none⟩) L76.length c88), (5, .pointer (some ⟨z31, 0, none⟩))]) (by kernel_rfl) (by kernel_rfl) (by kernel_rfl) (by kernel_rfl) (fun _ _ _ h => h) ⟨_, St.ordP [HeapP z31 z32 s404, RowP (.slice (some ⟨g151, 0, none⟩) L76.length c88) L76] ps hS587 [1, 0] [] (by kernel_rfl)⟩ ?_
                                        intro a678 hF677; clear hF675
                                        refine any_take 19 (.bool false) hF677 rfl (by kernel_rfl) rfl (by kernel_rfl) (fun w hw => by kernel_rfl) (l' := [(4, .bool false), (166, .bool false), (165, .tuple #[]), (164, .tuple #[]), (163, .tuple #[]), (162, .bool false), (161, .bool false), (160, .tuple #[]), (159, .tuple #[]), (158, .tuple #[]), (157, .tuple #[]), (156, .tuple #[]), (155, .tuple #[]), (154, .tuple #[]), (153, .bool false), (152, .bool false), (151, .int .i64 (aKind s404.a.c x136)), (149, .pointer (some ⟨z32, 0, none⟩)), (150, .int .i64 (x136)), (148, .pointer (some ⟨z31, 0, none⟩)), (143, .bool false), (142, .tuple #[]), (141, .tuple #[]), (140, .tuple #[]), (17, .int .i64 (x405)), (11, .int .i64 (x136)), (7, .slice (some ⟨g151, 0, none⟩) L76.length c88), (5, .pointer (some ⟨z31, 0, none⟩))]) (by kernel_rfl) (by kernel_rfl) (by kernel_rfl) (by kernel_rfl) (fun _ _ _ h => h) ⟨_, St.ordP [HeapP z31 z32 s404, RowP (.slice (some ⟨g151, 0, none⟩) L76.length c88) L76] ps hS587 [1, 0] [] (by kernel_rfl)⟩ ?_
                                        intro a680 hF679; clear hF677
                                        refine any_done (by kernel_rfl) ?_
                                        have hF681 : Fr 167 a680 [(4, .bool false)] := hF679.keep [4]
                                        clear hF679
                                        have hS682 : St w0 F0 (ps) w585 := St.ordP [HeapP z31 z32 s404, RowP (.slice (some ⟨g151, 0, none⟩) L76.length c88) L76] ps hS587 [] [0, 1] (by kernel_rfl)
                                        clear hS587
                                        refine thenN ?_
                                        refine wp_ret ?_
                                        obtain rfl := Option.some.inj hm652
                                        refine ev_ret hF681 [4] (.bool false) rfl rfl rfl ?_
                                        exact ⟨rfl, hS682⟩

end Go.Proofs.Ytdnelekoplkkcaa
