/- The walks of GHeapOver, printed by gen/walk.py. -/
import Derived.Test.YtdnelekoplkkcaaG09
import Derived.Deep.LoopGhost
import Derived.KernelRfl
namespace Go.Proofs.Ytdnelekoplkkcaa
open Go.RowKit
set_option linter.unusedVariables false

def HeapOver.l4b (x76 : Int) (rec79 : List Int → List Int → HSt → Int → Option (Bool)) (x101 : Int) (L117 : List Int) (rec151 : List Int → HSt → Int → Option (Bool)) (L145 : List Int) (s147 : HSt) (x148 : Int) : Option (Bool) := (if (decide (x148 < 10)) then bind3 (pAlloc 5 2 s147) fun x169 x170 s171 => (if (x170 != 0) then some (false) else bind2 (pStore x101 x148 (wrap64 (wrap64 (x169 * 2) + 1)) s171) fun x202 s203 => (if (x202 != 0) then some (false) else bind1 (pushM L145 x169) fun L226 => rec151 L226 s203 (IntKind.i64.wrap (x148 + 1)))) else rec79 L145 L117 s147 (IntKind.i64.wrap (x76 + 1)))
def HeapOver.l4 (x76 : Int) (rec79 : List Int → List Int → HSt → Int → Option (Bool)) (x101 : Int) (L117 : List Int) : Nat → List Int → HSt → Int → Option (Bool)
  | 0 => fun _ _ _ => none
  | kI + 1 => HeapOver.l4b x76 rec79 x101 L117 (HeapOver.l4 x76 rec79 x101 L117 kI)
def HeapOver.l7b (k : Nat) (L71 : List Int) (s313 : HSt) (rec389 : Int → Option (Bool)) (x386 : Int) : Option (Bool) := (if (decide (x386 < ((L71.length : Int)))) then (if (inR x386 L71.length) then bind1 (help_In.m k (hObjsF s313.a) (atI L71 x386)) fun y410 => (if (!(y410)) then some (false) else rec389 (IntKind.i64.wrap (x386 + 1))) else none) else (if ((((hObjsF s313.a).length : Int)) == ((L71.length : Int))) then some (s313.cy == 1) else some (false)))
def HeapOver.l7 (k : Nat) (L71 : List Int) (s313 : HSt) : Nat → Int → Option (Bool)
  | 0 => fun _ => none
  | kI + 1 => HeapOver.l7b k L71 s313 (HeapOver.l7 k L71 s313 kI)
def HeapOver.l8b (k : Nat) (L71 : List Int) (s313 : HSt) (rec487 : Int → Option (Bool)) (x484 : Int) : Option (Bool) := (if (decide (x484 < ((L71.length : Int)))) then (if (inR x484 L71.length) then bind1 (help_In.m k (hObjsF s313.a) (atI L71 x484)) fun y508 => (if (!(y508)) then some (false) else rec487 (IntKind.i64.wrap (x484 + 1))) else none) else (if ((((hObjsF s313.a).length : Int)) == ((L71.length : Int))) then some (s313.cy == 1) else some (false)))
def HeapOver.l8 (k : Nat) (L71 : List Int) (s313 : HSt) : Nat → Int → Option (Bool)
  | 0 => fun _ => none
  | kI + 1 => HeapOver.l8b k L71 s313 (HeapOver.l8 k L71 s313 kI)
def HeapOver.l6b (k : Nat) (L71 : List Int) (rec317 : HSt → Int → Option (Bool)) (s313 : HSt) (x314 : Int) : Option (Bool) := (if (decide (x314 < 500)) then (if (s313.ph != 0) then bind2 (pStep s313) fun L341 s342 => rec317 s342 (IntKind.i64.wrap (x314 + 1)) else HeapOver.l7 k L71 s313 k 0) else HeapOver.l8 k L71 s313 k 0)
def HeapOver.l6 (k : Nat) (L71 : List Int) : Nat → HSt → Int → Option (Bool)
  | 0 => fun _ _ => none
  | kI + 1 => HeapOver.l6b k L71 (HeapOver.l6 k L71 kI)
def HeapOver.l5b (k : Nat) (x12 : Int) (L71 : List Int) (L73 : List Int) (rec256 : HSt → Int → Option (Bool)) (s252 : HSt) (x253 : Int) : Option (Bool) := (if (decide (x253 < x12)) then bind3 (pAlloc 5 2 s252) fun x270 x271 s272 => rec256 s272 (IntKind.i64.wrap (x253 + 1)) else bind2 (pBegin s252 L73) fun x289 s290 => (if (x289 != 0) then some (false) else HeapOver.l6 k L71 k s290 0))
def HeapOver.l5 (k : Nat) (x12 : Int) (L71 : List Int) (L73 : List Int) : Nat → HSt → Int → Option (Bool)
  | 0 => fun _ _ => none
  | kI + 1 => HeapOver.l5b k x12 L71 L73 (HeapOver.l5 k x12 L71 L73 kI)
def HeapOver.l3b (k : Nat) (x6 : Int) (x12 : Int) (rec79 : List Int → List Int → HSt → Int → Option (Bool)) (L71 : List Int) (L73 : List Int) (s75 : HSt) (x76 : Int) : Option (Bool) := (if (decide (x76 < x6)) then bind3 (pAlloc 4 10 s75) fun x101 x102 s103 => bind1 (pushM L73 x101) fun L117 => bind1 (pushM L71 x101) fun L130 => HeapOver.l4 x76 rec79 x101 L117 k L130 s103 0 else HeapOver.l5 k x12 L71 L73 k s75 0)
def HeapOver.l3 (k : Nat) (x6 : Int) (x12 : Int) : Nat → List Int → List Int → HSt → Int → Option (Bool)
  | 0 => fun _ _ _ _ => none
  | kI + 1 => HeapOver.l3b k x6 x12 (HeapOver.l3 k x6 x12 kI)
def HeapOver.m (k : Nat) (i0 : Int) (i1 : Int) : Option (Bool) := bind1 (some (IntKind.i64.wrap (1 + (IntKind.i64.wrap (Int.tmod (IntKind.u64.wrap i0) 4))))) fun x6 => bind1 (some (IntKind.i64.wrap (Int.tmod (IntKind.u64.wrap i1) 10))) fun x12 => bind1 (pNew 30) fun s17 => bind1 (law09_awake.m k ) fun y31 => (if (!(y31)) then some (false) else HeapOver.l3 k x6 x12 k [] [] s17 0)
set_option maxRecDepth 100000 in
set_option maxHeartbeats 4000000 in
theorem HeapOver.ok {w0 w : World} {F0 : List Nat} {ps : List Piece} {k : Nat} {i0 : Int} {i1 : Int} {r0 : Bool} (hS : St w0 F0 (ps) w) (hm : HeapOver.m k i0 i1 = some r0) :
    Calls Try.prog 8 #[.int .i64 (i0), .int .i64 (i1)] w fun e w' => e = .returned (.bool r0) ∧ St w0 F0 (ps) w' := by
  refine ev_enterL 137 [.int .i64 (i0), .int .i64 (i1)] Try.func8 rfl rfl (by simp) ?_
  intro a hF
  have hF0 : Fr 137 a [(0, .int .i64 (i0)), (1, .int .i64 (i1))] := hF; clear hF
  unfold HeapOver.m at hm
  refine wp_seq ?_
  refine wp_region_lit ?_
  refine ev_runs 1 hF0 (l' := [(4, .bool false), (0, .int .i64 (i0)), (1, .int .i64 (i1))]) (w' := w) (by kernel_rfl) ?_
  intro a2 hF1; clear hF0
  refine wpList_nil ?_
  have hF3 : Fr 137 a2 [(0, .int .i64 (i0)), (1, .int .i64 (i1))] := hF1.keep [0, 1]
  clear hF1
  refine thenN ?_
  refine wp_seq ?_
  refine wp_region_lit ?_
  refine ev_runs 10 hF3 (l' := [(0, .int .i64 (IntKind.i64.wrap (1 + (IntKind.i64.wrap (Int.tmod (IntKind.u64.wrap i0) 4))))), (27, .int .i64 (IntKind.i64.wrap (Int.tmod (IntKind.u64.wrap i1) 10))), (26, .int .u64 (Int.tmod (IntKind.u64.wrap i1) 10)), (25, .int .u64 (IntKind.u64.wrap i1)), (24, .int .i64 (i1)), (23, .int .i64 (IntKind.i64.wrap (1 + (IntKind.i64.wrap (Int.tmod (IntKind.u64.wrap i0) 4))))), (22, .int .i64 (IntKind.i64.wrap (Int.tmod (IntKind.u64.wrap i0) 4))), (21, .int .u64 (Int.tmod (IntKind.u64.wrap i0) 4)), (20, .int .u64 (IntKind.u64.wrap i0)), (19, .int .i64 (i0)), (1, .int .i64 (i1))]) (w' := w) (by kernel_rfl) ?_
  intro a5 hF4; clear hF3
  obtain ⟨x6, hx7, hm8⟩ := bind1E hm; clear hm
  have hF9 := hF4; rw [Option.some.inj hx7] at hF9; clear hF4
  refine ev_runs 1 hF9 (l' := [(1, .int .i64 (IntKind.i64.wrap (Int.tmod (IntKind.u64.wrap i1) 10))), (0, .int .i64 (x6)), (27, .int .i64 (IntKind.i64.wrap (Int.tmod (IntKind.u64.wrap i1) 10))), (26, .int .u64 (Int.tmod (IntKind.u64.wrap i1) 10)), (25, .int .u64 (IntKind.u64.wrap i1)), (24, .int .i64 (i1)), (23, .int .i64 (x6)), (22, .int .i64 (IntKind.i64.wrap (Int.tmod (IntKind.u64.wrap i0) 4))), (21, .int .u64 (Int.tmod (IntKind.u64.wrap i0) 4)), (20, .int .u64 (IntKind.u64.wrap i0)), (19, .int .i64 (i0))]) (w' := w) (by kernel_rfl) ?_
  intro a11 hF10; clear hF9
  obtain ⟨x12, hx13, hm14⟩ := bind1E hm8; clear hm8
  have hF15 := hF10; rw [Option.some.inj hx13] at hF15; clear hF10
  refine wpList_nil ?_
  have hF16 : Fr 137 a11 [(1, .int .i64 (x12)), (0, .int .i64 (x6))] := hF15.keep [0, 1]
  clear hF15
  refine thenN ?_
  refine wp_seq ?_
  refine wp_region_lit ?_
  refine ev_call 27 #[.int .i64 30] hF16 rfl rfl (by kernel_rfl) rfl (by kernel_rfl) (fun w => by kernel_rfl) ?_
  obtain ⟨s17, hx18, hm19⟩ := bind1E hm14; clear hm14
  refine (p_New hS hx18).mono ?_
  rintro _ w20 ⟨z24, z25, rfl, hS22⟩ a21 hF23; clear hF16 hS
  have hF27 : Fr 137 a21 [(29, .tuple #[.pointer (some ⟨z24, 0, none⟩), .int .i64 0]), (1, .int .i64 (x12)), (0, .int .i64 (x6))] := hF23
  clear hF23
  refine ev_runs 5 hF27 (l' := [(6, .int .i64 0), (5, .pointer (some ⟨z24, 0, none⟩)), (31, .int .i64 0), (30, .pointer (some ⟨z24, 0, none⟩)), (28, .tuple #[.pointer (some ⟨z24, 0, none⟩), .int .i64 0]), (29, .tuple #[.pointer (some ⟨z24, 0, none⟩), .int .i64 0]), (1, .int .i64 (x12)), (0, .int .i64 (x6))]) (w' := w20) (by kernel_rfl) ?_
  intro a29 hF28; clear hF27
  refine wpList_nil ?_
  have hF30 : Fr 137 a29 [(6, .int .i64 0), (5, .pointer (some ⟨z24, 0, none⟩)), (1, .int .i64 (x12)), (0, .int .i64 (x6))] := hF28.keep [0, 1, 5, 6]
  clear hF28
  refine thenN ?_
  refine wp_seq ?_
  refine wp_seq ?_
  refine wp_region_lit ?_
  refine ev_call 28 #[] hF30 rfl rfl (by kernel_rfl) rfl (by kernel_rfl) (fun w => by kernel_rfl) ?_
  obtain ⟨y31, hx32, hm33⟩ := bind1E hm19; clear hm19
  refine (law09_awake.ok hS22 hx32).mono ?_
  rintro _ w34 ⟨rfl, hS36⟩ a35 hF37; clear hF30 hS22
  have hF38 : Fr 137 a35 [(32, .bool (y31)), (6, .int .i64 0), (5, .pointer (some ⟨z24, 0, none⟩)), (1, .int .i64 (x12)), (0, .int .i64 (x6))] := hF37
  clear hF37
  refine ev_runs 2 hF38 (l' := [(34, .bool (!(y31))), (33, .bool (!(y31))), (32, .bool (y31)), (6, .int .i64 0), (5, .pointer (some ⟨z24, 0, none⟩)), (1, .int .i64 (x12)), (0, .int .i64 (x6))]) (w' := w34) (by kernel_rfl) ?_
  intro a40 hF39; clear hF38
  cases hc41 : (!(y31)) with
  | true =>
    rw [hc41] at hF39
    rw [hc41] at hm33
    have hm42 := ifT hm33; clear hm33
    refine ev_runs 12 hF39 (l' := [(46, .bool true), (45, .tuple #[]), (44, .tuple #[]), (43, .tuple #[]), (42, .bool true), (41, .bool true), (40, .tuple #[]), (39, .tuple #[]), (38, .bool true), (37, .bool true), (36, .tuple #[]), (35, .tuple #[]), (34, .bool true), (33, .bool true), (32, .bool (y31)), (6, .int .i64 0), (5, .pointer (some ⟨z24, 0, none⟩)), (1, .int .i64 (x12)), (0, .int .i64 (x6))]) (w' := w34) (by kernel_rfl) ?_
    intro a44 hF43; clear hF39
    refine wpList_nil ?_
    have hF45 : Fr 137 a44 [(46, .bool true), (5, .pointer (some ⟨z24, 0, none⟩)), (1, .int .i64 (x12)), (0, .int .i64 (x6))] := hF43.keep [0, 1, 5, 46]
    clear hF43
    refine thenN ?_
    refine ev_condT hF45 rfl rfl ?_
    refine wp_seq ?_
    refine wp_region_lit ?_
    refine ev_runs 1 hF45 (l' := [(4, .bool false), (46, .bool true), (5, .pointer (some ⟨z24, 0, none⟩)), (1, .int .i64 (x12)), (0, .int .i64 (x6))]) (w' := w34) (by kernel_rfl) ?_
    intro a47 hF46; clear hF45
    refine wpList_nil ?_
    have hF48 : Fr 137 a47 [(4, .bool false)] := hF46.keep [4]
    clear hF46
    have hS49 : St w0 F0 (ps) w34 := St.ordP [HeapP z24 z25 s17] ps hS36 [] [0] (by kernel_rfl)
    clear hS36
    refine thenN ?_
    refine wp_ret ?_
    refine thenR ?_
    obtain rfl := Option.some.inj hm42
    refine ev_ret hF48 [4] (.bool false) rfl rfl rfl ?_
    exact ⟨rfl, hS49⟩
  | false =>
    rw [hc41] at hF39
    rw [hc41] at hm33
    have hm51 := ifF hm33; clear hm33
    refine ev_runs 9 hF39 (l' := [(43, .pointer (some ⟨z24, 0, none⟩)), (42, .bool false), (41, .bool false), (40, .bool false), (39, .pointer (some ⟨z24, 0, none⟩)), (38, .bool false), (37, .bool false), (36, .bool false), (35, .int .i64 0), (34, .bool false), (33, .bool false), (32, .bool (y31)), (6, .int .i64 0), (5, .pointer (some ⟨z24, 0, none⟩)), (1, .int .i64 (x12)), (0, .int .i64 (x6))]) (w' := w34) (by kernel_rfl) ?_
    intro a53 hF52; clear hF39
    refine ev_call 24 #[.pointer (some ⟨z24, 0, none⟩)] hF52 rfl rfl (by kernel_rfl) rfl (by kernel_rfl) (fun w => by kernel_rfl) ?_
    refine (p_Arena hS36).mono ?_
    rintro _ w54 ⟨rfl, hS56⟩ a55 hF57; clear hF52 hS36
    have hF58 : Fr 137 a55 [(44, .pointer (some ⟨z25, 0, none⟩)), (43, .pointer (some ⟨z24, 0, none⟩)), (42, .bool false), (41, .bool false), (40, .bool false), (39, .pointer (some ⟨z24, 0, none⟩)), (38, .bool false), (37, .bool false), (36, .bool false), (35, .int .i64 0), (34, .bool false), (33, .bool false), (32, .bool (y31)), (6, .int .i64 0), (5, .pointer (some ⟨z24, 0, none⟩)), (1, .int .i64 (x12)), (0, .int .i64 (x6))] := hF57
    clear hF57
    refine ev_runs 2 hF58 (l' := [(46, .bool false), (45, .bool false), (44, .pointer (some ⟨z25, 0, none⟩)), (43, .pointer (some ⟨z24, 0, none⟩)), (42, .bool false), (41, .bool false), (40, .bool false), (39, .pointer (some ⟨z24, 0, none⟩)), (38, .bool false), (37, .bool false), (36, .bool false), (35, .int .i64 0), (34, .bool false), (33, .bool false), (32, .bool (y31)), (6, .int .i64 0), (5, .pointer (some ⟨z24, 0, none⟩)), (1, .int .i64 (x12)), (0, .int .i64 (x6))]) (w' := w54) (by kernel_rfl) ?_
    intro a60 hF59; clear hF58
    refine wpList_nil ?_
    have hF61 : Fr 137 a60 [(46, .bool false), (5, .pointer (some ⟨z24, 0, none⟩)), (1, .int .i64 (x12)), (0, .int .i64 (x6))] := hF59.keep [0, 1, 5, 46]
    clear hF59
    refine thenN ?_
    refine ev_condF hF61 rfl rfl ?_
    refine wp_skip ?_
    have hF62 : Fr 137 a60 [(5, .pointer (some ⟨z24, 0, none⟩)), (1, .int .i64 (x12)), (0, .int .i64 (x6))] := hF61.keep [0, 1, 5]
    clear hF61
    refine thenN ?_
    refine wp_seq ?_
    refine wp_region_lit ?_
    have hS64 : St w0 F0 (RowP (.slice none 0 0) [] :: HeapP z24 z25 s17 :: ps) w54 := St.nil hS56
    clear hS56
    have hS66 : St w0 F0 (RowP (.slice none 0 0) [] :: RowP (.slice none 0 0) [] :: HeapP z24 z25 s17 :: ps) w54 := St.nil hS64
    clear hS64
    refine ev_runs 2 hF62 (l' := [(8, .slice none 0 0), (7, .slice none 0 0), (5, .pointer (some ⟨z24, 0, none⟩)), (1, .int .i64 (x12)), (0, .int .i64 (x6))]) (w' := w54) (by kernel_rfl) ?_
    intro a68 hF67; clear hF62
    refine wpList_nil ?_
    refine thenN ?_
    refine wp_seq ?_
    refine wp_seq ?_
    refine wp_region_lit ?_
    refine ev_runs 1 hF67 (l' := [(9, .int .i64 0), (8, .slice none 0 0), (7, .slice none 0 0), (5, .pointer (some ⟨z24, 0, none⟩)), (1, .int .i64 (x12)), (0, .int .i64 (x6))]) (w' := w54) (by kernel_rfl) ?_
    intro a70 hF69; clear hF67
    refine wpList_nil ?_
    refine thenN ?_
    refine wp_block ?_
    refine wp_loop_ghost (fun kI a w => ∃ (v72 : Value) (L71 : List Int) (v74 : Value) (L73 : List Int) (s75 : HSt) (x76 : Int), Fr 137 a [(9, .int .i64 (x76)), (8, v72), (7, v74), (5, .pointer (some ⟨z24, 0, none⟩)), (1, .int .i64 (x12)), (0, .int .i64 (x6))] ∧ St w0 F0 (RowP (v72) L71 :: RowP (v74) L73 :: HeapP z24 z25 s75 :: ps) w ∧ HeapOver.l3 k x6 x12 kI L71 L73 s75 x76 = some r0) k ⟨.slice none 0 0, [], .slice none 0 0, [], s17, 0, hF69, hS66, hm51⟩ ?_
    rintro k77 a78 w79 ⟨v72, L71, v74, L73, s75, x76, hF80, hS81, hm82⟩
    clear hF69 hS66 hm51
    cases k77 with
    | zero => cases hm82
    | succ k77 =>
      have hm83 : HeapOver.l3b k x6 x12 (HeapOver.l3 k x6 x12 k77) L71 L73 s75 x76 = some r0 := hm82
      clear hm82
      unfold HeapOver.l3b at hm83
      obtain ⟨hl87, p84, c85, rfl, hp86⟩ := St.shape hS81 0 rfl
      obtain ⟨hl91, p88, c89, rfl, hp90⟩ := St.shape hS81 1 rfl
      refine wp_seq ?_
      refine wp_seq ?_
      refine wp_region_lit ?_
      refine ev_runs 3 hF80 (l' := [(49, .bool (decide (x76 < x6))), (48, .int .i64 (x6)), (47, .int .i64 (x76)), (9, .int .i64 (x76)), (8, .slice p84 L71.length c85), (7, .slice p88 L73.length c89), (5, .pointer (some ⟨z24, 0, none⟩)), (1, .int .i64 (x12)), (0, .int .i64 (x6))]) (w' := w79) (by kernel_rfl) ?_
      intro a93 hF92; clear hF80
      refine wpList_nil ?_
      have hF94 : Fr 137 a93 [(49, .bool (decide (x76 < x6))), (9, .int .i64 (x76)), (8, .slice p84 L71.length c85), (7, .slice p88 L73.length c89), (5, .pointer (some ⟨z24, 0, none⟩)), (1, .int .i64 (x12)), (0, .int .i64 (x6))] := hF92.keep [0, 1, 5, 7, 8, 9, 49]
      clear hF92
      refine thenN ?_
      cases hc95 : (decide (x76 < x6)) with
      | true =>
        rw [hc95] at hF94
        rw [hc95] at hm83
        have hm96 := ifT hm83; clear hm83
        refine ev_condT hF94 rfl rfl ?_
        refine wp_skip ?_
        have hF97 : Fr 137 a93 [(9, .int .i64 (x76)), (8, .slice p84 L71.length c85), (7, .slice p88 L73.length c89), (5, .pointer (some ⟨z24, 0, none⟩)), (1, .int .i64 (x12)), (0, .int .i64 (x6))] := hF94.keep [0, 1, 5, 7, 8, 9]
        clear hF94
        refine thenN ?_
        refine wp_seq ?_
        refine wp_block ?_
        refine wp_seq ?_
        refine wp_region_lit ?_
        refine ev_runs 1 hF97 (l' := [(53, .pointer (some ⟨z24, 0, none⟩)), (9, .int .i64 (x76)), (8, .slice p84 L71.length c85), (7, .slice p88 L73.length c89), (5, .pointer (some ⟨z24, 0, none⟩)), (1, .int .i64 (x12)), (0, .int .i64 (x6))]) (w' := w79) (by kernel_rfl) ?_
        intro a99 hF98; clear hF97
        have hS100 : St w0 F0 (HeapP z24 z25 s75 :: RowP (.slice p84 L71.length c85) L71 :: RowP (.slice p88 L73.length c89) L73 :: ps) w79 := St.ordP [RowP (.slice p84 L71.length c85) L71, RowP (.slice p88 L73.length c89) L73, HeapP z24 z25 s75] ps hS81 [2, 0, 1] [] (by kernel_rfl)
        clear hS81
        refine ev_call 29 #[.pointer (some ⟨z24, 0, none⟩), .int .i64 4, .int .i64 10] hF98 rfl rfl (by kernel_rfl) rfl (by kernel_rfl) (fun w => by kernel_rfl) ?_
        obtain ⟨x101, x102, s103, hx104, hm105⟩ := bind3E hm96; clear hm96
        refine (p_Alloc hS100 hx104).mono ?_
        rintro _ w106 ⟨rfl, hS108⟩ a107 hF109; clear hF98 hS100
        have hF110 : Fr 137 a107 [(54, .tuple #[.int .i64 (x101), .int .i64 (x102)]), (53, .pointer (some ⟨z24, 0, none⟩)), (9, .int .i64 (x76)), (8, .slice p84 L71.length c85), (7, .slice p88 L73.length c89), (5, .pointer (some ⟨z24, 0, none⟩)), (1, .int .i64 (x12)), (0, .int .i64 (x6))] := hF109
        clear hF109
        refine ev_runs 5 hF110 (l' := [(11, .int .i64 (x102)), (10, .int .i64 (x101)), (56, .int .i64 (x102)), (55, .int .i64 (x101)), (52, .tuple #[.int .i64 (x101), .int .i64 (x102)]), (54, .tuple #[.int .i64 (x101), .int .i64 (x102)]), (53, .pointer (some ⟨z24, 0, none⟩)), (9, .int .i64 (x76)), (8, .slice p84 L71.length c85), (7, .slice p88 L73.length c89), (5, .pointer (some ⟨z24, 0, none⟩)), (1, .int .i64 (x12)), (0, .int .i64 (x6))]) (w' := w106) (by kernel_rfl) ?_
        intro a112 hF111; clear hF110
        refine wpList_nil ?_
        have hF113 : Fr 137 a112 [(10, .int .i64 (x101)), (9, .int .i64 (x76)), (8, .slice p84 L71.length c85), (7, .slice p88 L73.length c89), (5, .pointer (some ⟨z24, 0, none⟩)), (1, .int .i64 (x12)), (0, .int .i64 (x6))] := hF111.keep [0, 1, 5, 7, 8, 9, 10]
        clear hF111
        refine thenN ?_
        refine wp_seq ?_
        refine wp_region_lit ?_
        refine ev_runs 3 hF113 (l' := [(59, .slice (some ⟨w106.heap.size, 0, none⟩) 1 1), (58, .int .i64 (x101)), (57, .slice p88 L73.length c89), (10, .int .i64 (x101)), (9, .int .i64 (x76)), (8, .slice p84 L71.length c85), (7, .slice p88 L73.length c89), (5, .pointer (some ⟨z24, 0, none⟩)), (1, .int .i64 (x12)), (0, .int .i64 (x6))]) (w' := w106.alloc (.cells #[.int .i64 (x101)] 3)) (by kernel_rfl) ?_
        intro a115 hF114; clear hF113
        have hS116 : St w0 F0 (RowP (.slice p88 L73.length c89) L73 :: HeapP z24 z25 s103 :: RowP (.slice p84 L71.length c85) L71 :: ps) w106 := St.ordP [HeapP z24 z25 s103, RowP (.slice p84 L71.length c85) L71, RowP (.slice p88 L73.length c89) L73] ps hS108 [2, 0, 1] [] (by kernel_rfl)
        clear hS108
        obtain ⟨L117, hx118, hm119⟩ := bind1E hm105; clear hm105
        refine ev_push 60 (.tmp 57) (.tmp 59) hF114 rfl rfl rfl rfl rfl rfl rfl rfl hS116 hx118 ?_
        intro g120 c121 w122 a123 hS124 hF125; clear hF114 hS116
        have hF126 : Fr 137 a123 [(60, .slice (some ⟨g120, 0, none⟩) L117.length c121), (59, .slice (some ⟨w106.heap.size, 0, none⟩) 1 1), (58, .int .i64 (x101)), (57, .slice p88 L73.length c89), (10, .int .i64 (x101)), (9, .int .i64 (x76)), (8, .slice p84 L71.length c85), (7, .slice p88 L73.length c89), (5, .pointer (some ⟨z24, 0, none⟩)), (1, .int .i64 (x12)), (0, .int .i64 (x6))] := hF125
        clear hF125
        refine ev_runs 3 hF126 (l' := [(63, .slice (some ⟨w122.heap.size, 0, none⟩) 1 1), (62, .int .i64 (x101)), (61, .slice p84 L71.length c85), (60, .slice (some ⟨g120, 0, none⟩) L117.length c121), (59, .slice (some ⟨w106.heap.size, 0, none⟩) 1 1), (58, .int .i64 (x101)), (57, .slice p88 L73.length c89), (10, .int .i64 (x101)), (9, .int .i64 (x76)), (8, .slice p84 L71.length c85), (7, .slice p88 L73.length c89), (5, .pointer (some ⟨z24, 0, none⟩)), (1, .int .i64 (x12)), (0, .int .i64 (x6))]) (w' := w122.alloc (.cells #[.int .i64 (x101)] 3)) (by kernel_rfl) ?_
        intro a128 hF127; clear hF126
        have hS129 : St w0 F0 (RowP (.slice p84 L71.length c85) L71 :: RowP (.slice (some ⟨g120, 0, none⟩) L117.length c121) L117 :: HeapP z24 z25 s103 :: ps) w122 := St.ordP [RowP (.slice (some ⟨g120, 0, none⟩) L117.length c121) L117, HeapP z24 z25 s103, RowP (.slice p84 L71.length c85) L71] ps hS124 [2, 0, 1] [] (by kernel_rfl)
        clear hS124
        obtain ⟨L130, hx131, hm132⟩ := bind1E hm119; clear hm119
        refine ev_push 64 (.tmp 61) (.tmp 63) hF127 rfl rfl rfl rfl rfl rfl rfl rfl hS129 hx131 ?_
        intro g133 c134 w135 a136 hS137 hF138; clear hF127 hS129
        have hF139 : Fr 137 a136 [(64, .slice (some ⟨g133, 0, none⟩) L130.length c134), (63, .slice (some ⟨w122.heap.size, 0, none⟩) 1 1), (62, .int .i64 (x101)), (61, .slice p84 L71.length c85), (60, .slice (some ⟨g120, 0, none⟩) L117.length c121), (59, .slice (some ⟨w106.heap.size, 0, none⟩) 1 1), (58, .int .i64 (x101)), (57, .slice p88 L73.length c89), (10, .int .i64 (x101)), (9, .int .i64 (x76)), (8, .slice p84 L71.length c85), (7, .slice p88 L73.length c89), (5, .pointer (some ⟨z24, 0, none⟩)), (1, .int .i64 (x12)), (0, .int .i64 (x6))] := hF138
        clear hF138
        refine ev_runs 2 hF139 (l' := [(8, .slice (some ⟨g133, 0, none⟩) L130.length c134), (7, .slice (some ⟨g120, 0, none⟩) L117.length c121), (64, .slice (some ⟨g133, 0, none⟩) L130.length c134), (63, .slice (some ⟨w122.heap.size, 0, none⟩) 1 1), (62, .int .i64 (x101)), (61, .slice p84 L71.length c85), (60, .slice (some ⟨g120, 0, none⟩) L117.length c121), (59, .slice (some ⟨w106.heap.size, 0, none⟩) 1 1), (58, .int .i64 (x101)), (57, .slice p88 L73.length c89), (10, .int .i64 (x101)), (9, .int .i64 (x76)), (5, .pointer (some ⟨z24, 0, none⟩)), (1, .int .i64 (x12)), (0, .int .i64 (x6))]) (w' := w135) (by kernel_rfl) ?_
        intro a141 hF140; clear hF139
        refine wpList_nil ?_
        have hF142 : Fr 137 a141 [(8, .slice (some ⟨g133, 0, none⟩) L130.length c134), (7, .slice (some ⟨g120, 0, none⟩) L117.length c121), (10, .int .i64 (x101)), (9, .int .i64 (x76)), (5, .pointer (some ⟨z24, 0, none⟩)), (1, .int .i64 (x12)), (0, .int .i64 (x6))] := hF140.keep [0, 1, 5, 7, 8, 9, 10]
        clear hF140
        refine thenN ?_
        refine wp_seq ?_
        refine wp_region_lit ?_
        refine ev_runs 1 hF142 (l' := [(12, .int .i64 0), (8, .slice (some ⟨g133, 0, none⟩) L130.length c134), (7, .slice (some ⟨g120, 0, none⟩) L117.length c121), (10, .int .i64 (x101)), (9, .int .i64 (x76)), (5, .pointer (some ⟨z24, 0, none⟩)), (1, .int .i64 (x12)), (0, .int .i64 (x6))]) (w' := w135) (by kernel_rfl) ?_
        intro a144 hF143; clear hF142
        refine wpList_nil ?_
        refine thenN ?_
        refine wp_block ?_
        refine wp_loop_ghost (fun kI a w => ∃ (v146 : Value) (L145 : List Int) (s147 : HSt) (x148 : Int), Fr 137 a [(12, .int .i64 (x148)), (8, v146), (7, .slice (some ⟨g120, 0, none⟩) L117.length c121), (10, .int .i64 (x101)), (9, .int .i64 (x76)), (5, .pointer (some ⟨z24, 0, none⟩)), (1, .int .i64 (x12)), (0, .int .i64 (x6))] ∧ St w0 F0 (RowP (v146) L145 :: RowP (.slice (some ⟨g120, 0, none⟩) L117.length c121) L117 :: HeapP z24 z25 s147 :: ps) w ∧ HeapOver.l4 x76 (HeapOver.l3 k x6 x12 k77) x101 L117 kI L145 s147 x148 = some r0) k ⟨.slice (some ⟨g133, 0, none⟩) L130.length c134, L130, s103, 0, hF143, hS137, hm132⟩ ?_
        rintro k149 a150 w151 ⟨v146, L145, s147, x148, hF152, hS153, hm154⟩
        clear hF143 hS137 hm132
        cases k149 with
        | zero => cases hm154
        | succ k149 =>
          have hm155 : HeapOver.l4b x76 (HeapOver.l3 k x6 x12 k77) x101 L117 (HeapOver.l4 x76 (HeapOver.l3 k x6 x12 k77) x101 L117 k149) L145 s147 x148 = some r0 := hm154
          clear hm154
          unfold HeapOver.l4b at hm155
          obtain ⟨hl159, p156, c157, rfl, hp158⟩ := St.shape hS153 0 rfl
          refine wp_seq ?_
          refine wp_seq ?_
          refine wp_region_lit ?_
          refine ev_runs 2 hF152 (l' := [(66, .bool (decide (x148 < 10))), (65, .int .i64 (x148)), (12, .int .i64 (x148)), (8, .slice p156 L145.length c157), (7, .slice (some ⟨g120, 0, none⟩) L117.length c121), (10, .int .i64 (x101)), (9, .int .i64 (x76)), (5, .pointer (some ⟨z24, 0, none⟩)), (1, .int .i64 (x12)), (0, .int .i64 (x6))]) (w' := w151) (by kernel_rfl) ?_
          intro a161 hF160; clear hF152
          refine wpList_nil ?_
          have hF162 : Fr 137 a161 [(66, .bool (decide (x148 < 10))), (12, .int .i64 (x148)), (8, .slice p156 L145.length c157), (7, .slice (some ⟨g120, 0, none⟩) L117.length c121), (10, .int .i64 (x101)), (9, .int .i64 (x76)), (5, .pointer (some ⟨z24, 0, none⟩)), (1, .int .i64 (x12)), (0, .int .i64 (x6))] := hF160.keep [0, 1, 5, 7, 8, 9, 10, 12, 66]
          clear hF160
          refine thenN ?_
          cases hc163 : (decide (x148 < 10)) with
          | true =>
            rw [hc163] at hF162
            rw [hc163] at hm155
            have hm164 := ifT hm155; clear hm155
            refine ev_condT hF162 rfl rfl ?_
            refine wp_skip ?_
            have hF165 : Fr 137 a161 [(12, .int .i64 (x148)), (8, .slice p156 L145.length c157), (7, .slice (some ⟨g120, 0, none⟩) L117.length c121), (10, .int .i64 (x101)), (9, .int .i64 (x76)), (5, .pointer (some ⟨z24, 0, none⟩)), (1, .int .i64 (x12)), (0, .int .i64 (x6))] := hF162.keep [0, 1, 5, 7, 8, 9, 10, 12]
            clear hF162
            refine thenN ?_
            refine wp_seq ?_
            refine wp_block ?_
            refine wp_seq ?_
            refine wp_region_lit ?_
            refine ev_runs 1 hF165 (l' := [(70, .pointer (some ⟨z24, 0, none⟩)), (12, .int .i64 (x148)), (8, .slice p156 L145.length c157), (7, .slice (some ⟨g120, 0, none⟩) L117.length c121), (10, .int .i64 (x101)), (9, .int .i64 (x76)), (5, .pointer (some ⟨z24, 0, none⟩)), (1, .int .i64 (x12)), (0, .int .i64 (x6))]) (w' := w151) (by kernel_rfl) ?_
            intro a167 hF166; clear hF165
            have hS168 : St w0 F0 (HeapP z24 z25 s147 :: RowP (.slice p156 L145.length c157) L145 :: RowP (.slice (some ⟨g120, 0, none⟩) L117.length c121) L117 :: ps) w151 := St.ordP [RowP (.slice p156 L145.length c157) L145, RowP (.slice (some ⟨g120, 0, none⟩) L117.length c121) L117, HeapP z24 z25 s147] ps hS153 [2, 0, 1] [] (by kernel_rfl)
            clear hS153
            refine ev_call 29 #[.pointer (some ⟨z24, 0, none⟩), .int .i64 5, .int .i64 2] hF166 rfl rfl (by kernel_rfl) rfl (by kernel_rfl) (fun w => by kernel_rfl) ?_
            obtain ⟨x169, x170, s171, hx172, hm173⟩ := bind3E hm164; clear hm164
            refine (p_Alloc hS168 hx172).mono ?_
            rintro _ w174 ⟨rfl, hS176⟩ a175 hF177; clear hF166 hS168
            have hF178 : Fr 137 a175 [(71, .tuple #[.int .i64 (x169), .int .i64 (x170)]), (70, .pointer (some ⟨z24, 0, none⟩)), (12, .int .i64 (x148)), (8, .slice p156 L145.length c157), (7, .slice (some ⟨g120, 0, none⟩) L117.length c121), (10, .int .i64 (x101)), (9, .int .i64 (x76)), (5, .pointer (some ⟨z24, 0, none⟩)), (1, .int .i64 (x12)), (0, .int .i64 (x6))] := hF177
            clear hF177
            refine ev_runs 5 hF178 (l' := [(14, .int .i64 (x170)), (13, .int .i64 (x169)), (73, .int .i64 (x170)), (72, .int .i64 (x169)), (69, .tuple #[.int .i64 (x169), .int .i64 (x170)]), (71, .tuple #[.int .i64 (x169), .int .i64 (x170)]), (70, .pointer (some ⟨z24, 0, none⟩)), (12, .int .i64 (x148)), (8, .slice p156 L145.length c157), (7, .slice (some ⟨g120, 0, none⟩) L117.length c121), (10, .int .i64 (x101)), (9, .int .i64 (x76)), (5, .pointer (some ⟨z24, 0, none⟩)), (1, .int .i64 (x12)), (0, .int .i64 (x6))]) (w' := w174) (by kernel_rfl) ?_
            intro a180 hF179; clear hF178
            refine wpList_nil ?_
            have hF181 : Fr 137 a180 [(14, .int .i64 (x170)), (13, .int .i64 (x169)), (12, .int .i64 (x148)), (8, .slice p156 L145.length c157), (7, .slice (some ⟨g120, 0, none⟩) L117.length c121), (10, .int .i64 (x101)), (9, .int .i64 (x76)), (5, .pointer (some ⟨z24, 0, none⟩)), (1, .int .i64 (x12)), (0, .int .i64 (x6))] := hF179.keep [0, 1, 5, 7, 8, 9, 10, 12, 13, 14]
            clear hF179
            refine thenN ?_
            refine wp_seq ?_
            refine wp_seq ?_
            refine wp_region_lit ?_
            refine ev_runs 3 hF181 (l' := [(76, .bool (x170 != 0)), (75, .bool (x170 != 0)), (74, .int .i64 (x170)), (14, .int .i64 (x170)), (13, .int .i64 (x169)), (12, .int .i64 (x148)), (8, .slice p156 L145.length c157), (7, .slice (some ⟨g120, 0, none⟩) L117.length c121), (10, .int .i64 (x101)), (9, .int .i64 (x76)), (5, .pointer (some ⟨z24, 0, none⟩)), (1, .int .i64 (x12)), (0, .int .i64 (x6))]) (w' := w174) (by kernel_rfl) ?_
            intro a183 hF182; clear hF181
            cases hc184 : (x170 != 0) with
            | true =>
              rw [hc184] at hF182
              rw [hc184] at hm173
              have hm185 := ifT hm173; clear hm173
              refine ev_runs 8 hF182 (l' := [(84, .bool true), (83, .tuple #[]), (82, .tuple #[]), (81, .tuple #[]), (80, .tuple #[]), (79, .tuple #[]), (78, .tuple #[]), (77, .tuple #[]), (76, .bool true), (75, .bool true), (74, .int .i64 (x170)), (14, .int .i64 (x170)), (13, .int .i64 (x169)), (12, .int .i64 (x148)), (8, .slice p156 L145.length c157), (7, .slice (some ⟨g120, 0, none⟩) L117.length c121), (10, .int .i64 (x101)), (9, .int .i64 (x76)), (5, .pointer (some ⟨z24, 0, none⟩)), (1, .int .i64 (x12)), (0, .int .i64 (x6))]) (w' := w174) (by kernel_rfl) ?_
              intro a187 hF186; clear hF182
              refine wpList_nil ?_
              have hF188 : Fr 137 a187 [(84, .bool true), (83, .tuple #[]), (82, .tuple #[]), (81, .tuple #[]), (80, .tuple #[]), (79, .tuple #[]), (78, .tuple #[]), (77, .tuple #[]), (13, .int .i64 (x169)), (12, .int .i64 (x148)), (8, .slice p156 L145.length c157), (7, .slice (some ⟨g120, 0, none⟩) L117.length c121), (10, .int .i64 (x101)), (9, .int .i64 (x76)), (5, .pointer (some ⟨z24, 0, none⟩)), (1, .int .i64 (x12)), (0, .int .i64 (x6))] := hF186.keep [0, 1, 5, 7, 8, 9, 10, 12, 13, 77, 78, 79, 80, 81, 82, 83, 84]
              clear hF186
              refine thenN ?_
              refine ev_condT hF188 rfl rfl ?_
              refine wp_seq ?_
              refine wp_region_lit ?_
              refine ev_runs 1 hF188 (l' := [(4, .bool false), (84, .bool true), (83, .tuple #[]), (82, .tuple #[]), (81, .tuple #[]), (80, .tuple #[]), (79, .tuple #[]), (78, .tuple #[]), (77, .tuple #[]), (13, .int .i64 (x169)), (12, .int .i64 (x148)), (8, .slice p156 L145.length c157), (7, .slice (some ⟨g120, 0, none⟩) L117.length c121), (10, .int .i64 (x101)), (9, .int .i64 (x76)), (5, .pointer (some ⟨z24, 0, none⟩)), (1, .int .i64 (x12)), (0, .int .i64 (x6))]) (w' := w174) (by kernel_rfl) ?_
              intro a190 hF189; clear hF188
              refine wpList_nil ?_
              have hF191 : Fr 137 a190 [(4, .bool false)] := hF189.keep [4]
              clear hF189
              have hS192 : St w0 F0 (ps) w174 := St.ordP [HeapP z24 z25 s171, RowP (.slice p156 L145.length c157) L145, RowP (.slice (some ⟨g120, 0, none⟩) L117.length c121) L117] ps hS176 [] [0, 1, 2] (by kernel_rfl)
              clear hS176
              refine thenN ?_
              refine wp_ret ?_
              refine thenR ?_
              refine blockR ?_
              refine thenR ?_
              refine thenR ?_
              refine blockR ?_
              refine blockR ?_
              refine thenR ?_
              refine thenR ?_
              refine blockR ?_
              refine thenR ?_
              obtain rfl := Option.some.inj hm185
              refine ev_ret hF191 [4] (.bool false) rfl rfl rfl ?_
              exact ⟨rfl, hS192⟩
            | false =>
              rw [hc184] at hF182
              rw [hc184] at hm173
              have hm194 := ifF hm173; clear hm173
              refine ev_runs 4 hF182 (l' := [(80, .int .i64 (x169)), (79, .int .i64 (x148)), (78, .int .i64 (x101)), (77, .pointer (some ⟨z24, 0, none⟩)), (76, .bool false), (75, .bool false), (74, .int .i64 (x170)), (14, .int .i64 (x170)), (13, .int .i64 (x169)), (12, .int .i64 (x148)), (8, .slice p156 L145.length c157), (7, .slice (some ⟨g120, 0, none⟩) L117.length c121), (10, .int .i64 (x101)), (9, .int .i64 (x76)), (5, .pointer (some ⟨z24, 0, none⟩)), (1, .int .i64 (x12)), (0, .int .i64 (x6))]) (w' := w174) (by kernel_rfl) ?_
              intro a196 hF195; clear hF182
              refine ev_call 36 #[.int .i64 (x169)] hF195 rfl rfl (by kernel_rfl) rfl (by kernel_rfl) (fun w => by kernel_rfl) ?_
              refine (p_rPtr hS176).mono ?_
              rintro _ w197 ⟨rfl, hS199⟩ a198 hF200; clear hF195 hS176
              have hF201 : Fr 137 a198 [(81, .int .i64 (wrap64 (wrap64 (x169 * 2) + 1))), (80, .int .i64 (x169)), (79, .int .i64 (x148)), (78, .int .i64 (x101)), (77, .pointer (some ⟨z24, 0, none⟩)), (76, .bool false), (75, .bool false), (74, .int .i64 (x170)), (14, .int .i64 (x170)), (13, .int .i64 (x169)), (12, .int .i64 (x148)), (8, .slice p156 L145.length c157), (7, .slice (some ⟨g120, 0, none⟩) L117.length c121), (10, .int .i64 (x101)), (9, .int .i64 (x76)), (5, .pointer (some ⟨z24, 0, none⟩)), (1, .int .i64 (x12)), (0, .int .i64 (x6))] := hF200
              clear hF200
              refine ev_call 35 #[.pointer (some ⟨z24, 0, none⟩), .int .i64 (x101), .int .i64 (x148), .int .i64 (wrap64 (wrap64 (x169 * 2) + 1))] hF201 rfl rfl (by kernel_rfl) rfl (by kernel_rfl) (fun w => by kernel_rfl) ?_
              obtain ⟨x202, s203, hx204, hm205⟩ := bind2E hm194; clear hm194
              refine (p_Store hS199 hx204).mono ?_
              rintro _ w206 ⟨rfl, hS208⟩ a207 hF209; clear hF201 hS199
              have hF210 : Fr 137 a207 [(82, .int .i64 (x202)), (81, .int .i64 (wrap64 (wrap64 (x169 * 2) + 1))), (80, .int .i64 (x169)), (79, .int .i64 (x148)), (78, .int .i64 (x101)), (77, .pointer (some ⟨z24, 0, none⟩)), (76, .bool false), (75, .bool false), (74, .int .i64 (x170)), (14, .int .i64 (x170)), (13, .int .i64 (x169)), (12, .int .i64 (x148)), (8, .slice p156 L145.length c157), (7, .slice (some ⟨g120, 0, none⟩) L117.length c121), (10, .int .i64 (x101)), (9, .int .i64 (x76)), (5, .pointer (some ⟨z24, 0, none⟩)), (1, .int .i64 (x12)), (0, .int .i64 (x6))] := hF209
              clear hF209
              refine ev_runs 2 hF210 (l' := [(84, .bool (x202 != 0)), (83, .bool (x202 != 0)), (82, .int .i64 (x202)), (81, .int .i64 (wrap64 (wrap64 (x169 * 2) + 1))), (80, .int .i64 (x169)), (79, .int .i64 (x148)), (78, .int .i64 (x101)), (77, .pointer (some ⟨z24, 0, none⟩)), (76, .bool false), (75, .bool false), (74, .int .i64 (x170)), (14, .int .i64 (x170)), (13, .int .i64 (x169)), (12, .int .i64 (x148)), (8, .slice p156 L145.length c157), (7, .slice (some ⟨g120, 0, none⟩) L117.length c121), (10, .int .i64 (x101)), (9, .int .i64 (x76)), (5, .pointer (some ⟨z24, 0, none⟩)), (1, .int .i64 (x12)), (0, .int .i64 (x6))]) (w' := w206) (by kernel_rfl) ?_
              intro a212 hF211; clear hF210
              refine wpList_nil ?_
              have hF213 : Fr 137 a212 [(84, .bool (x202 != 0)), (83, .bool (x202 != 0)), (82, .int .i64 (x202)), (81, .int .i64 (wrap64 (wrap64 (x169 * 2) + 1))), (80, .int .i64 (x169)), (79, .int .i64 (x148)), (78, .int .i64 (x101)), (77, .pointer (some ⟨z24, 0, none⟩)), (13, .int .i64 (x169)), (12, .int .i64 (x148)), (8, .slice p156 L145.length c157), (7, .slice (some ⟨g120, 0, none⟩) L117.length c121), (10, .int .i64 (x101)), (9, .int .i64 (x76)), (5, .pointer (some ⟨z24, 0, none⟩)), (1, .int .i64 (x12)), (0, .int .i64 (x6))] := hF211.keep [0, 1, 5, 7, 8, 9, 10, 12, 13, 77, 78, 79, 80, 81, 82, 83, 84]
              clear hF211
              refine thenN ?_
              cases hc214 : (x202 != 0) with
              | true =>
                rw [hc214] at hF213
                rw [hc214] at hm205
                have hm215 := ifT hm205; clear hm205
                refine ev_condT hF213 rfl rfl ?_
                refine wp_seq ?_
                refine wp_region_lit ?_
                refine ev_runs 1 hF213 (l' := [(4, .bool false), (84, .bool true), (83, .bool true), (82, .int .i64 (x202)), (81, .int .i64 (wrap64 (wrap64 (x169 * 2) + 1))), (80, .int .i64 (x169)), (79, .int .i64 (x148)), (78, .int .i64 (x101)), (77, .pointer (some ⟨z24, 0, none⟩)), (13, .int .i64 (x169)), (12, .int .i64 (x148)), (8, .slice p156 L145.length c157), (7, .slice (some ⟨g120, 0, none⟩) L117.length c121), (10, .int .i64 (x101)), (9, .int .i64 (x76)), (5, .pointer (some ⟨z24, 0, none⟩)), (1, .int .i64 (x12)), (0, .int .i64 (x6))]) (w' := w206) (by kernel_rfl) ?_
                intro a217 hF216; clear hF213
                refine wpList_nil ?_
                have hF218 : Fr 137 a217 [(4, .bool false)] := hF216.keep [4]
                clear hF216
                have hS219 : St w0 F0 (ps) w206 := St.ordP [HeapP z24 z25 s203, RowP (.slice p156 L145.length c157) L145, RowP (.slice (some ⟨g120, 0, none⟩) L117.length c121) L117] ps hS208 [] [0, 1, 2] (by kernel_rfl)
                clear hS208
                refine thenN ?_
                refine wp_ret ?_
                refine thenR ?_
                refine blockR ?_
                refine thenR ?_
                refine thenR ?_
                refine blockR ?_
                refine blockR ?_
                refine thenR ?_
                refine thenR ?_
                refine blockR ?_
                refine thenR ?_
                obtain rfl := Option.some.inj hm215
                refine ev_ret hF218 [4] (.bool false) rfl rfl rfl ?_
                exact ⟨rfl, hS219⟩
              | false =>
                rw [hc214] at hF213
                rw [hc214] at hm205
                have hm221 := ifF hm205; clear hm205
                refine ev_condF hF213 rfl rfl ?_
                refine wp_skip ?_
                have hF222 : Fr 137 a212 [(83, .bool false), (82, .int .i64 (x202)), (81, .int .i64 (wrap64 (wrap64 (x169 * 2) + 1))), (80, .int .i64 (x169)), (79, .int .i64 (x148)), (78, .int .i64 (x101)), (77, .pointer (some ⟨z24, 0, none⟩)), (13, .int .i64 (x169)), (12, .int .i64 (x148)), (8, .slice p156 L145.length c157), (7, .slice (some ⟨g120, 0, none⟩) L117.length c121), (10, .int .i64 (x101)), (9, .int .i64 (x76)), (5, .pointer (some ⟨z24, 0, none⟩)), (1, .int .i64 (x12)), (0, .int .i64 (x6))] := hF213.keep [0, 1, 5, 7, 8, 9, 10, 12, 13, 77, 78, 79, 80, 81, 82, 83]
                clear hF213
                refine thenN ?_
                refine wp_region_lit ?_
                refine ev_runs 3 hF222 (l' := [(87, .slice (some ⟨w206.heap.size, 0, none⟩) 1 1), (86, .int .i64 (x169)), (85, .slice p156 L145.length c157), (83, .bool false), (82, .int .i64 (x202)), (81, .int .i64 (wrap64 (wrap64 (x169 * 2) + 1))), (80, .int .i64 (x169)), (79, .int .i64 (x148)), (78, .int .i64 (x101)), (77, .pointer (some ⟨z24, 0, none⟩)), (13, .int .i64 (x169)), (12, .int .i64 (x148)), (8, .slice p156 L145.length c157), (7, .slice (some ⟨g120, 0, none⟩) L117.length c121), (10, .int .i64 (x101)), (9, .int .i64 (x76)), (5, .pointer (some ⟨z24, 0, none⟩)), (1, .int .i64 (x12)), (0, .int .i64 (x6))]) (w' := w206.alloc (.cells #[.int .i64 (x169)] 3)) (by kernel_rfl) ?_
                intro a224 hF223; clear hF222
                have hS225 : St w0 F0 (RowP (.slice p156 L145.length c157) L145 :: HeapP z24 z25 s203 :: RowP (.slice (some ⟨g120, 0, none⟩) L117.length c121) L117 :: ps) w206 := St.ordP [HeapP z24 z25 s203, RowP (.slice p156 L145.length c157) L145, RowP (.slice (some ⟨g120, 0, none⟩) L117.length c121) L117] ps hS208 [1, 0, 2] [] (by kernel_rfl)
                clear hS208
                obtain ⟨L226, hx227, hm228⟩ := bind1E hm221; clear hm221
                refine ev_push 88 (.tmp 85) (.tmp 87) hF223 rfl rfl rfl rfl rfl rfl rfl rfl hS225 hx227 ?_
                intro g229 c230 w231 a232 hS233 hF234; clear hF223 hS225
                have hF235 : Fr 137 a232 [(88, .slice (some ⟨g229, 0, none⟩) L226.length c230), (87, .slice (some ⟨w206.heap.size, 0, none⟩) 1 1), (86, .int .i64 (x169)), (85, .slice p156 L145.length c157), (83, .bool false), (82, .int .i64 (x202)), (81, .int .i64 (wrap64 (wrap64 (x169 * 2) + 1))), (80, .int .i64 (x169)), (79, .int .i64 (x148)), (78, .int .i64 (x101)), (77, .pointer (some ⟨z24, 0, none⟩)), (13, .int .i64 (x169)), (12, .int .i64 (x148)), (8, .slice p156 L145.length c157), (7, .slice (some ⟨g120, 0, none⟩) L117.length c121), (10, .int .i64 (x101)), (9, .int .i64 (x76)), (5, .pointer (some ⟨z24, 0, none⟩)), (1, .int .i64 (x12)), (0, .int .i64 (x6))] := hF234
                clear hF234
                refine ev_runs 1 hF235 (l' := [(8, .slice (some ⟨g229, 0, none⟩) L226.length c230), (88, .slice (some ⟨g229, 0, none⟩) L226.length c230), (87, .slice (some ⟨w206.heap.size, 0, none⟩) 1 1), (86, .int .i64 (x169)), (85, .slice p156 L145.length c157), (83, .bool false), (82, .int .i64 (x202)), (81, .int .i64 (wrap64 (wrap64 (x169 * 2) + 1))), (80, .int .i64 (x169)), (79, .int .i64 (x148)), (78, .int .i64 (x101)), (77, .pointer (some ⟨z24, 0, none⟩)), (13, .int .i64 (x169)), (12, .int .i64 (x148)), (7, .slice (some ⟨g120, 0, none⟩) L117.length c121), (10, .int .i64 (x101)), (9, .int .i64 (x76)), (5, .pointer (some ⟨z24, 0, none⟩)), (1, .int .i64 (x12)), (0, .int .i64 (x6))]) (w' := w231) (by kernel_rfl) ?_
                intro a237 hF236; clear hF235
                refine wpList_nil ?_
                have hF238 : Fr 137 a237 [(8, .slice (some ⟨g229, 0, none⟩) L226.length c230), (83, .bool false), (82, .int .i64 (x202)), (81, .int .i64 (wrap64 (wrap64 (x169 * 2) + 1))), (80, .int .i64 (x169)), (79, .int .i64 (x148)), (78, .int .i64 (x101)), (77, .pointer (some ⟨z24, 0, none⟩)), (12, .int .i64 (x148)), (7, .slice (some ⟨g120, 0, none⟩) L117.length c121), (10, .int .i64 (x101)), (9, .int .i64 (x76)), (5, .pointer (some ⟨z24, 0, none⟩)), (1, .int .i64 (x12)), (0, .int .i64 (x6))] := hF236.keep [0, 1, 5, 7, 8, 9, 10, 12, 77, 78, 79, 80, 81, 82, 83]
                clear hF236
                refine blockN ?_
                refine thenN ?_
                refine wp_region_lit ?_
                refine ev_runs 3 hF238 (l' := [(12, .int .i64 (IntKind.i64.wrap (x148 + 1))), (68, .int .i64 (IntKind.i64.wrap (x148 + 1))), (67, .int .i64 (x148)), (8, .slice (some ⟨g229, 0, none⟩) L226.length c230), (83, .bool false), (82, .int .i64 (x202)), (81, .int .i64 (wrap64 (wrap64 (x169 * 2) + 1))), (80, .int .i64 (x169)), (79, .int .i64 (x148)), (78, .int .i64 (x101)), (77, .pointer (some ⟨z24, 0, none⟩)), (7, .slice (some ⟨g120, 0, none⟩) L117.length c121), (10, .int .i64 (x101)), (9, .int .i64 (x76)), (5, .pointer (some ⟨z24, 0, none⟩)), (1, .int .i64 (x12)), (0, .int .i64 (x6))]) (w' := w231) (by kernel_rfl) ?_
                intro a240 hF239; clear hF238
                refine wpList_nil ?_
                have hF241 : Fr 137 a240 [(12, .int .i64 (IntKind.i64.wrap (x148 + 1))), (8, .slice (some ⟨g229, 0, none⟩) L226.length c230), (83, .bool false), (82, .int .i64 (x202)), (81, .int .i64 (wrap64 (wrap64 (x169 * 2) + 1))), (80, .int .i64 (x169)), (79, .int .i64 (x148)), (78, .int .i64 (x101)), (77, .pointer (some ⟨z24, 0, none⟩)), (7, .slice (some ⟨g120, 0, none⟩) L117.length c121), (10, .int .i64 (x101)), (9, .int .i64 (x76)), (5, .pointer (some ⟨z24, 0, none⟩)), (1, .int .i64 (x12)), (0, .int .i64 (x6))] := hF239.keep [0, 1, 5, 7, 8, 9, 10, 12, 77, 78, 79, 80, 81, 82, 83]
                clear hF239
                have hF242 : Fr 137 a240 [(12, .int .i64 (IntKind.i64.wrap (x148 + 1))), (8, .slice (some ⟨g229, 0, none⟩) L226.length c230), (7, .slice (some ⟨g120, 0, none⟩) L117.length c121), (10, .int .i64 (x101)), (9, .int .i64 (x76)), (5, .pointer (some ⟨z24, 0, none⟩)), (1, .int .i64 (x12)), (0, .int .i64 (x6))] := Fr.re hF241 (by kernel_rfl)
                clear hF241
                have hS243 : St w0 F0 (RowP (.slice (some ⟨g229, 0, none⟩) L226.length c230) L226 :: RowP (.slice (some ⟨g120, 0, none⟩) L117.length c121) L117 :: HeapP z24 z25 s203 :: ps) w231 := St.ordP [RowP (.slice (some ⟨g229, 0, none⟩) L226.length c230) L226, HeapP z24 z25 s203, RowP (.slice (some ⟨g120, 0, none⟩) L117.length c121) L117] ps hS233 [0, 2, 1] [] (by kernel_rfl)
                clear hS233
                exact thenN ⟨k149, Nat.lt_succ_self _, .slice (some ⟨g229, 0, none⟩) L226.length c230, L226, s203, IntKind.i64.wrap (x148 + 1), hF242, hS243, hm228⟩
          | false =>
            rw [hc163] at hF162
            rw [hc163] at hm155
            have hm244 := ifF hm155; clear hm155
            refine ev_condF hF162 rfl rfl ?_
            refine wp_exit ?_
            refine thenE ?_
            refine thenE ?_
            refine blockE ?_
            refine blockN ?_
            refine thenN ?_
            refine wp_region_lit ?_
            refine ev_runs 3 hF162 (l' := [(9, .int .i64 (IntKind.i64.wrap (x76 + 1))), (51, .int .i64 (IntKind.i64.wrap (x76 + 1))), (50, .int .i64 (x76)), (66, .bool false), (12, .int .i64 (x148)), (8, .slice p156 L145.length c157), (7, .slice (some ⟨g120, 0, none⟩) L117.length c121), (10, .int .i64 (x101)), (5, .pointer (some ⟨z24, 0, none⟩)), (1, .int .i64 (x12)), (0, .int .i64 (x6))]) (w' := w151) (by kernel_rfl) ?_
            intro a246 hF245; clear hF162
            refine wpList_nil ?_
            have hF247 : Fr 137 a246 [(9, .int .i64 (IntKind.i64.wrap (x76 + 1))), (8, .slice p156 L145.length c157), (7, .slice (some ⟨g120, 0, none⟩) L117.length c121), (5, .pointer (some ⟨z24, 0, none⟩)), (1, .int .i64 (x12)), (0, .int .i64 (x6))] := hF245.keep [0, 1, 5, 7, 8, 9]
            clear hF245
            exact thenN ⟨k77, Nat.lt_succ_self _, .slice p156 L145.length c157, L145, .slice (some ⟨g120, 0, none⟩) L117.length c121, L117, s147, IntKind.i64.wrap (x76 + 1), hF247, hS153, hm244⟩
      | false =>
        rw [hc95] at hF94
        rw [hc95] at hm83
        have hm248 := ifF hm83; clear hm83
        refine ev_condF hF94 rfl rfl ?_
        refine wp_exit ?_
        refine thenE ?_
        refine thenE ?_
        refine blockE ?_
        refine thenN ?_
        refine wp_seq ?_
        refine wp_seq ?_
        refine wp_region_lit ?_
        refine ev_runs 1 hF94 (l' := [(15, .int .i64 0), (49, .bool false), (9, .int .i64 (x76)), (8, .slice p84 L71.length c85), (7, .slice p88 L73.length c89), (5, .pointer (some ⟨z24, 0, none⟩)), (1, .int .i64 (x12)), (0, .int .i64 (x6))]) (w' := w79) (by kernel_rfl) ?_
        intro a250 hF249; clear hF94
        refine wpList_nil ?_
        have hF251 : Fr 137 a250 [(15, .int .i64 0), (8, .slice p84 L71.length c85), (7, .slice p88 L73.length c89), (5, .pointer (some ⟨z24, 0, none⟩)), (1, .int .i64 (x12))] := hF249.keep [1, 5, 7, 8, 15]
        clear hF249
        refine thenN ?_
        refine wp_block ?_
        refine wp_loop_ghost (fun kI a w => ∃ (s252 : HSt) (x253 : Int), Fr 137 a [(15, .int .i64 (x253)), (8, .slice p84 L71.length c85), (7, .slice p88 L73.length c89), (5, .pointer (some ⟨z24, 0, none⟩)), (1, .int .i64 (x12))] ∧ St w0 F0 (RowP (.slice p84 L71.length c85) L71 :: RowP (.slice p88 L73.length c89) L73 :: HeapP z24 z25 s252 :: ps) w ∧ HeapOver.l5 k x12 L71 L73 kI s252 x253 = some r0) k ⟨s75, 0, hF251, hS81, hm248⟩ ?_
        rintro k254 a255 w256 ⟨s252, x253, hF257, hS258, hm259⟩
        clear hF251 hS81 hm248
        cases k254 with
        | zero => cases hm259
        | succ k254 =>
          have hm260 : HeapOver.l5b k x12 L71 L73 (HeapOver.l5 k x12 L71 L73 k254) s252 x253 = some r0 := hm259
          clear hm259
          unfold HeapOver.l5b at hm260
          refine wp_seq ?_
          refine wp_seq ?_
          refine wp_region_lit ?_
          refine ev_runs 3 hF257 (l' := [(91, .bool (decide (x253 < x12))), (90, .int .i64 (x12)), (89, .int .i64 (x253)), (15, .int .i64 (x253)), (8, .slice p84 L71.length c85), (7, .slice p88 L73.length c89), (5, .pointer (some ⟨z24, 0, none⟩)), (1, .int .i64 (x12))]) (w' := w256) (by kernel_rfl) ?_
          intro a262 hF261; clear hF257
          refine wpList_nil ?_
          have hF263 : Fr 137 a262 [(91, .bool (decide (x253 < x12))), (15, .int .i64 (x253)), (8, .slice p84 L71.length c85), (7, .slice p88 L73.length c89), (5, .pointer (some ⟨z24, 0, none⟩)), (1, .int .i64 (x12))] := hF261.keep [1, 5, 7, 8, 15, 91]
          clear hF261
          refine thenN ?_
          cases hc264 : (decide (x253 < x12)) with
          | true =>
            rw [hc264] at hF263
            rw [hc264] at hm260
            have hm265 := ifT hm260; clear hm260
            refine ev_condT hF263 rfl rfl ?_
            refine wp_skip ?_
            have hF266 : Fr 137 a262 [(15, .int .i64 (x253)), (8, .slice p84 L71.length c85), (7, .slice p88 L73.length c89), (5, .pointer (some ⟨z24, 0, none⟩)), (1, .int .i64 (x12))] := hF263.keep [1, 5, 7, 8, 15]
            clear hF263
            refine thenN ?_
            refine wp_seq ?_
            refine wp_block ?_
            refine wp_region_lit ?_
            refine ev_runs 1 hF266 (l' := [(94, .pointer (some ⟨z24, 0, none⟩)), (15, .int .i64 (x253)), (8, .slice p84 L71.length c85), (7, .slice p88 L73.length c89), (5, .pointer (some ⟨z24, 0, none⟩)), (1, .int .i64 (x12))]) (w' := w256) (by kernel_rfl) ?_
            intro a268 hF267; clear hF266
            have hS269 : St w0 F0 (HeapP z24 z25 s252 :: RowP (.slice p84 L71.length c85) L71 :: RowP (.slice p88 L73.length c89) L73 :: ps) w256 := St.ordP [RowP (.slice p84 L71.length c85) L71, RowP (.slice p88 L73.length c89) L73, HeapP z24 z25 s252] ps hS258 [2, 0, 1] [] (by kernel_rfl)
            clear hS258
            refine ev_call 29 #[.pointer (some ⟨z24, 0, none⟩), .int .i64 5, .int .i64 2] hF267 rfl rfl (by kernel_rfl) rfl (by kernel_rfl) (fun w => by kernel_rfl) ?_
            obtain ⟨x270, x271, s272, hx273, hm274⟩ := bind3E hm265; clear hm265
            refine (p_Alloc hS269 hx273).mono ?_
            rintro _ w275 ⟨rfl, hS277⟩ a276 hF278; clear hF267 hS269
            have hF279 : Fr 137 a276 [(95, .tuple #[.int .i64 (x270), .int .i64 (x271)]), (94, .pointer (some ⟨z24, 0, none⟩)), (15, .int .i64 (x253)), (8, .slice p84 L71.length c85), (7, .slice p88 L73.length c89), (5, .pointer (some ⟨z24, 0, none⟩)), (1, .int .i64 (x12))] := hF278
            clear hF278
            refine wpList_nil ?_
            have hF280 : Fr 137 a276 [(15, .int .i64 (x253)), (8, .slice p84 L71.length c85), (7, .slice p88 L73.length c89), (5, .pointer (some ⟨z24, 0, none⟩)), (1, .int .i64 (x12))] := hF279.keep [1, 5, 7, 8, 15]
            clear hF279
            refine blockN ?_
            refine thenN ?_
            refine wp_region_lit ?_
            refine ev_runs 3 hF280 (l' := [(15, .int .i64 (IntKind.i64.wrap (x253 + 1))), (93, .int .i64 (IntKind.i64.wrap (x253 + 1))), (92, .int .i64 (x253)), (8, .slice p84 L71.length c85), (7, .slice p88 L73.length c89), (5, .pointer (some ⟨z24, 0, none⟩)), (1, .int .i64 (x12))]) (w' := w275) (by kernel_rfl) ?_
            intro a282 hF281; clear hF280
            refine wpList_nil ?_
            have hF283 : Fr 137 a282 [(15, .int .i64 (IntKind.i64.wrap (x253 + 1))), (8, .slice p84 L71.length c85), (7, .slice p88 L73.length c89), (5, .pointer (some ⟨z24, 0, none⟩)), (1, .int .i64 (x12))] := hF281.keep [1, 5, 7, 8, 15]
            clear hF281
            have hS284 : St w0 F0 (RowP (.slice p84 L71.length c85) L71 :: RowP (.slice p88 L73.length c89) L73 :: HeapP z24 z25 s272 :: ps) w275 := St.ordP [HeapP z24 z25 s272, RowP (.slice p84 L71.length c85) L71, RowP (.slice p88 L73.length c89) L73] ps hS277 [1, 2, 0] [] (by kernel_rfl)
            clear hS277
            exact thenN ⟨k254, Nat.lt_succ_self _, s272, IntKind.i64.wrap (x253 + 1), hF283, hS284, hm274⟩
          | false =>
            rw [hc264] at hF263
            rw [hc264] at hm260
            have hm285 := ifF hm260; clear hm260
            refine ev_condF hF263 rfl rfl ?_
            refine wp_exit ?_
            refine thenE ?_
            refine thenE ?_
            refine blockE ?_
            refine thenN ?_
            refine wp_seq ?_
            refine wp_seq ?_
            refine wp_region_lit ?_
            refine ev_runs 2 hF263 (l' := [(97, .slice p88 L73.length c89), (96, .pointer (some ⟨z24, 0, none⟩)), (91, .bool false), (15, .int .i64 (x253)), (8, .slice p84 L71.length c85), (7, .slice p88 L73.length c89), (5, .pointer (some ⟨z24, 0, none⟩)), (1, .int .i64 (x12))]) (w' := w256) (by kernel_rfl) ?_
            intro a287 hF286; clear hF263
            have hS288 : St w0 F0 (HeapP z24 z25 s252 :: RowP (.slice p88 L73.length c89) L73 :: RowP (.slice p84 L71.length c85) L71 :: ps) w256 := St.ordP [RowP (.slice p84 L71.length c85) L71, RowP (.slice p88 L73.length c89) L73, HeapP z24 z25 s252] ps hS258 [2, 1, 0] [] (by kernel_rfl)
            clear hS258
            refine ev_call 23 #[.pointer (some ⟨z24, 0, none⟩), .slice p88 L73.length c89] hF286 rfl rfl (by kernel_rfl) rfl (by kernel_rfl) (fun w => by kernel_rfl) ?_
            obtain ⟨x289, s290, hx291, hm292⟩ := bind2E hm285; clear hm285
            refine (p_Begin hS288 hx291).mono ?_
            rintro _ w293 ⟨rfl, hS295⟩ a294 hF296; clear hF286 hS288
            have hF297 : Fr 137 a294 [(98, .int .i64 (x289)), (97, .slice p88 L73.length c89), (96, .pointer (some ⟨z24, 0, none⟩)), (91, .bool false), (15, .int .i64 (x253)), (8, .slice p84 L71.length c85), (7, .slice p88 L73.length c89), (5, .pointer (some ⟨z24, 0, none⟩)), (1, .int .i64 (x12))] := hF296
            clear hF296
            refine ev_runs 1 hF297 (l' := [(99, .bool (x289 != 0)), (98, .int .i64 (x289)), (97, .slice p88 L73.length c89), (96, .pointer (some ⟨z24, 0, none⟩)), (91, .bool false), (15, .int .i64 (x253)), (8, .slice p84 L71.length c85), (7, .slice p88 L73.length c89), (5, .pointer (some ⟨z24, 0, none⟩)), (1, .int .i64 (x12))]) (w' := w293) (by kernel_rfl) ?_
            intro a299 hF298; clear hF297
            refine wpList_nil ?_
            have hF300 : Fr 137 a299 [(99, .bool (x289 != 0)), (8, .slice p84 L71.length c85), (5, .pointer (some ⟨z24, 0, none⟩))] := hF298.keep [5, 8, 99]
            clear hF298
            have hS301 : St w0 F0 (HeapP z24 z25 s290 :: RowP (.slice p84 L71.length c85) L71 :: ps) w293 := St.ordP [HeapP z24 z25 s290, RowP (.slice p88 L73.length c89) L73, RowP (.slice p84 L71.length c85) L71] ps hS295 [0, 2] [1] (by kernel_rfl)
            clear hS295
            refine thenN ?_
            cases hc302 : (x289 != 0) with
            | true =>
              rw [hc302] at hF300
              rw [hc302] at hm292
              have hm303 := ifT hm292; clear hm292
              refine ev_condT hF300 rfl rfl ?_
              refine wp_seq ?_
              refine wp_region_lit ?_
              refine ev_runs 1 hF300 (l' := [(4, .bool false), (99, .bool true), (8, .slice p84 L71.length c85), (5, .pointer (some ⟨z24, 0, none⟩))]) (w' := w293) (by kernel_rfl) ?_
              intro a305 hF304; clear hF300
              refine wpList_nil ?_
              have hF306 : Fr 137 a305 [(4, .bool false)] := hF304.keep [4]
              clear hF304
              have hS307 : St w0 F0 (ps) w293 := St.ordP [HeapP z24 z25 s290, RowP (.slice p84 L71.length c85) L71] ps hS301 [] [0, 1] (by kernel_rfl)
              clear hS301
              refine thenN ?_
              refine wp_ret ?_
              refine thenR ?_
              obtain rfl := Option.some.inj hm303
              refine ev_ret hF306 [4] (.bool false) rfl rfl rfl ?_
              exact ⟨rfl, hS307⟩
            | false =>
              rw [hc302] at hF300
              rw [hc302] at hm292
              have hm309 := ifF hm292; clear hm292
              refine ev_condF hF300 rfl rfl ?_
              refine wp_skip ?_
              have hF310 : Fr 137 a299 [(8, .slice p84 L71.length c85), (5, .pointer (some ⟨z24, 0, none⟩))] := hF300.keep [5, 8]
              clear hF300
              refine thenN ?_
              refine wp_seq ?_
              refine wp_seq ?_
              refine wp_region_lit ?_
              refine ev_runs 1 hF310 (l' := [(16, .int .i64 0), (8, .slice p84 L71.length c85), (5, .pointer (some ⟨z24, 0, none⟩))]) (w' := w293) (by kernel_rfl) ?_
              intro a312 hF311; clear hF310
              refine wpList_nil ?_
              refine thenN ?_
              refine wp_block ?_
              refine wp_loop_ghost (fun kI a w => ∃ (s313 : HSt) (x314 : Int), Fr 137 a [(16, .int .i64 (x314)), (8, .slice p84 L71.length c85), (5, .pointer (some ⟨z24, 0, none⟩))] ∧ St w0 F0 (HeapP z24 z25 s313 :: RowP (.slice p84 L71.length c85) L71 :: ps) w ∧ HeapOver.l6 k L71 kI s313 x314 = some r0) k ⟨s290, 0, hF311, hS301, hm309⟩ ?_
              rintro k315 a316 w317 ⟨s313, x314, hF318, hS319, hm320⟩
              clear hF311 hS301 hm309
              cases k315 with
              | zero => cases hm320
              | succ k315 =>
                have hm321 : HeapOver.l6b k L71 (HeapOver.l6 k L71 k315) s313 x314 = some r0 := hm320
                clear hm320
                unfold HeapOver.l6b at hm321
                refine wp_seq ?_
                refine wp_seq ?_
                refine wp_region_lit ?_
                refine ev_runs 3 hF318 (l' := [(102, .bool (decide (x314 < 500))), (101, .bool (decide (x314 < 500))), (100, .int .i64 (x314)), (16, .int .i64 (x314)), (8, .slice p84 L71.length c85), (5, .pointer (some ⟨z24, 0, none⟩))]) (w' := w317) (by kernel_rfl) ?_
                intro a323 hF322; clear hF318
                cases hc324 : (decide (x314 < 500)) with
                | true =>
                  rw [hc324] at hF322
                  rw [hc324] at hm321
                  have hm325 := ifT hm321; clear hm321
                  refine ev_runs 1 hF322 (l' := [(103, .pointer (some ⟨z24, 0, none⟩)), (102, .bool true), (101, .bool true), (100, .int .i64 (x314)), (16, .int .i64 (x314)), (8, .slice p84 L71.length c85), (5, .pointer (some ⟨z24, 0, none⟩))]) (w' := w317) (by kernel_rfl) ?_
                  intro a327 hF326; clear hF322
                  refine ev_call 31 #[.pointer (some ⟨z24, 0, none⟩)] hF326 rfl rfl (by kernel_rfl) rfl (by kernel_rfl) (fun w => by kernel_rfl) ?_
                  refine (p_Phase hS319).mono ?_
                  rintro _ w328 ⟨rfl, hS330⟩ a329 hF331; clear hF326 hS319
                  have hF332 : Fr 137 a329 [(104, .int .i64 (s313.ph)), (103, .pointer (some ⟨z24, 0, none⟩)), (102, .bool true), (101, .bool true), (100, .int .i64 (x314)), (16, .int .i64 (x314)), (8, .slice p84 L71.length c85), (5, .pointer (some ⟨z24, 0, none⟩))] := hF331
                  clear hF331
                  refine ev_runs 2 hF332 (l' := [(106, .bool (s313.ph != 0)), (105, .bool (s313.ph != 0)), (104, .int .i64 (s313.ph)), (103, .pointer (some ⟨z24, 0, none⟩)), (102, .bool true), (101, .bool true), (100, .int .i64 (x314)), (16, .int .i64 (x314)), (8, .slice p84 L71.length c85), (5, .pointer (some ⟨z24, 0, none⟩))]) (w' := w328) (by kernel_rfl) ?_
                  intro a334 hF333; clear hF332
                  refine wpList_nil ?_
                  have hF335 : Fr 137 a334 [(106, .bool (s313.ph != 0)), (105, .bool (s313.ph != 0)), (104, .int .i64 (s313.ph)), (103, .pointer (some ⟨z24, 0, none⟩)), (16, .int .i64 (x314)), (8, .slice p84 L71.length c85), (5, .pointer (some ⟨z24, 0, none⟩))] := hF333.keep [5, 8, 16, 103, 104, 105, 106]
                  clear hF333
                  refine thenN ?_
                  cases hc336 : (s313.ph != 0) with
                  | true =>
                    rw [hc336] at hF335
                    rw [hc336] at hm325
                    have hm337 := ifT hm325; clear hm325
                    refine ev_condT hF335 rfl rfl ?_
                    refine wp_skip ?_
                    have hF338 : Fr 137 a334 [(105, .bool true), (104, .int .i64 (s313.ph)), (103, .pointer (some ⟨z24, 0, none⟩)), (16, .int .i64 (x314)), (8, .slice p84 L71.length c85), (5, .pointer (some ⟨z24, 0, none⟩))] := hF335.keep [5, 8, 16, 103, 104, 105]
                    clear hF335
                    refine thenN ?_
                    refine wp_seq ?_
                    refine wp_block ?_
                    refine wp_region_lit ?_
                    refine ev_runs 1 hF338 (l' := [(109, .pointer (some ⟨z24, 0, none⟩)), (105, .bool true), (104, .int .i64 (s313.ph)), (103, .pointer (some ⟨z24, 0, none⟩)), (16, .int .i64 (x314)), (8, .slice p84 L71.length c85), (5, .pointer (some ⟨z24, 0, none⟩))]) (w' := w328) (by kernel_rfl) ?_
                    intro a340 hF339; clear hF338
                    refine ev_call 30 #[.pointer (some ⟨z24, 0, none⟩)] hF339 rfl rfl (by kernel_rfl) rfl (by kernel_rfl) (fun w => by kernel_rfl) ?_
                    obtain ⟨L341, s342, hx343, hm344⟩ := bind2E hm337; clear hm337
                    refine (p_Step hS330 hx343).mono ?_
                    rintro _ w345 ⟨z349, rfl, hS347⟩ a346 hF348; clear hF339 hS330
                    obtain ⟨hl354, p351, c352, rfl, hp353⟩ := St.shapeG (k := 1) hS347 rfl
                    have hF355 : Fr 137 a346 [(110, .slice p351 L341.length c352), (109, .pointer (some ⟨z24, 0, none⟩)), (105, .bool true), (104, .int .i64 (s313.ph)), (103, .pointer (some ⟨z24, 0, none⟩)), (16, .int .i64 (x314)), (8, .slice p84 L71.length c85), (5, .pointer (some ⟨z24, 0, none⟩))] := hF348
                    clear hF348
                    refine wpList_nil ?_
                    have hF356 : Fr 137 a346 [(105, .bool true), (104, .int .i64 (s313.ph)), (103, .pointer (some ⟨z24, 0, none⟩)), (16, .int .i64 (x314)), (8, .slice p84 L71.length c85), (5, .pointer (some ⟨z24, 0, none⟩))] := hF355.keep [5, 8, 16, 103, 104, 105]
                    clear hF355
                    have hS357 : St w0 F0 (HeapP z24 z25 s342 :: RowP (.slice p84 L71.length c85) L71 :: ps) w345 := St.ordP [HeapP z24 z25 s342, GonesP (.slice p351 L341.length c352) L341, RowP (.slice p84 L71.length c85) L71] ps hS347 [0, 2] [1] (by kernel_rfl)
                    clear hS347
                    refine blockN ?_
                    refine thenN ?_
                    refine wp_region_lit ?_
                    refine ev_runs 3 hF356 (l' := [(16, .int .i64 (IntKind.i64.wrap (x314 + 1))), (108, .int .i64 (IntKind.i64.wrap (x314 + 1))), (107, .int .i64 (x314)), (105, .bool true), (104, .int .i64 (s313.ph)), (103, .pointer (some ⟨z24, 0, none⟩)), (8, .slice p84 L71.length c85), (5, .pointer (some ⟨z24, 0, none⟩))]) (w' := w345) (by kernel_rfl) ?_
                    intro a359 hF358; clear hF356
                    refine wpList_nil ?_
                    have hF360 : Fr 137 a359 [(16, .int .i64 (IntKind.i64.wrap (x314 + 1))), (105, .bool true), (104, .int .i64 (s313.ph)), (103, .pointer (some ⟨z24, 0, none⟩)), (8, .slice p84 L71.length c85), (5, .pointer (some ⟨z24, 0, none⟩))] := hF358.keep [5, 8, 16, 103, 104, 105]
                    clear hF358
                    have hF361 : Fr 137 a359 [(16, .int .i64 (IntKind.i64.wrap (x314 + 1))), (8, .slice p84 L71.length c85), (5, .pointer (some ⟨z24, 0, none⟩))] := Fr.re hF360 (by kernel_rfl)
                    clear hF360
                    exact thenN ⟨k315, Nat.lt_succ_self _, s342, IntKind.i64.wrap (x314 + 1), hF361, hS357, hm344⟩
                  | false =>
                    rw [hc336] at hF335
                    rw [hc336] at hm325
                    have hm362 := ifF hm325; clear hm325
                    refine ev_condF hF335 rfl rfl ?_
                    refine wp_exit ?_
                    refine thenE ?_
                    refine thenE ?_
                    refine blockE ?_
                    refine thenN ?_
                    refine wp_seq ?_
                    refine wp_region_lit ?_
                    refine ev_runs 1 hF335 (l' := [(111, .pointer (some ⟨z24, 0, none⟩)), (106, .bool false), (105, .bool false), (104, .int .i64 (s313.ph)), (103, .pointer (some ⟨z24, 0, none⟩)), (16, .int .i64 (x314)), (8, .slice p84 L71.length c85), (5, .pointer (some ⟨z24, 0, none⟩))]) (w' := w328) (by kernel_rfl) ?_
                    intro a364 hF363; clear hF335
                    refine ev_call 24 #[.pointer (some ⟨z24, 0, none⟩)] hF363 rfl rfl (by kernel_rfl) rfl (by kernel_rfl) (fun w => by kernel_rfl) ?_
                    refine (p_Arena hS330).mono ?_
                    rintro _ w365 ⟨rfl, hS367⟩ a366 hF368; clear hF363 hS330
                    have hF369 : Fr 137 a366 [(112, .pointer (some ⟨z25, 0, none⟩)), (111, .pointer (some ⟨z24, 0, none⟩)), (106, .bool false), (105, .bool false), (104, .int .i64 (s313.ph)), (103, .pointer (some ⟨z24, 0, none⟩)), (16, .int .i64 (x314)), (8, .slice p84 L71.length c85), (5, .pointer (some ⟨z24, 0, none⟩))] := hF368
                    clear hF368
                    refine ev_call 25 #[.pointer (some ⟨z25, 0, none⟩)] hF369 rfl rfl (by kernel_rfl) rfl (by kernel_rfl) (fun w => by kernel_rfl) ?_
                    refine (p_Objects hS367).mono ?_
                    rintro _ w370 ⟨z374, rfl, hS372⟩ a371 hF373; clear hF369 hS367
                    obtain ⟨hl379, p376, c377, rfl, hp378⟩ := St.shape hS372 1 rfl
                    have hF380 : Fr 137 a371 [(113, .slice p376 (hObjsF s313.a).length c377), (112, .pointer (some ⟨z25, 0, none⟩)), (111, .pointer (some ⟨z24, 0, none⟩)), (106, .bool false), (105, .bool false), (104, .int .i64 (s313.ph)), (103, .pointer (some ⟨z24, 0, none⟩)), (16, .int .i64 (x314)), (8, .slice p84 L71.length c85), (5, .pointer (some ⟨z24, 0, none⟩))] := hF373
                    clear hF373
                    refine ev_runs 1 hF380 (l' := [(17, .slice p376 (hObjsF s313.a).length c377), (113, .slice p376 (hObjsF s313.a).length c377), (112, .pointer (some ⟨z25, 0, none⟩)), (111, .pointer (some ⟨z24, 0, none⟩)), (106, .bool false), (105, .bool false), (104, .int .i64 (s313.ph)), (103, .pointer (some ⟨z24, 0, none⟩)), (16, .int .i64 (x314)), (8, .slice p84 L71.length c85), (5, .pointer (some ⟨z24, 0, none⟩))]) (w' := w370) (by kernel_rfl) ?_
                    intro a382 hF381; clear hF380
                    refine wpList_nil ?_
                    have hF383 : Fr 137 a382 [(17, .slice p376 (hObjsF s313.a).length c377), (8, .slice p84 L71.length c85), (5, .pointer (some ⟨z24, 0, none⟩))] := hF381.keep [5, 8, 17]
                    clear hF381
                    refine thenN ?_
                    refine wp_seq ?_
                    refine wp_seq ?_
                    refine wp_region_lit ?_
                    refine ev_runs 1 hF383 (l' := [(18, .int .i64 0), (17, .slice p376 (hObjsF s313.a).length c377), (8, .slice p84 L71.length c85), (5, .pointer (some ⟨z24, 0, none⟩))]) (w' := w370) (by kernel_rfl) ?_
                    intro a385 hF384; clear hF383
                    refine wpList_nil ?_
                    refine thenN ?_
                    refine wp_block ?_
                    refine wp_loop_ghost (fun kI a w => ∃ (x386 : Int), Fr 137 a [(18, .int .i64 (x386)), (17, .slice p376 (hObjsF s313.a).length c377), (8, .slice p84 L71.length c85), (5, .pointer (some ⟨z24, 0, none⟩))] ∧ St w0 F0 (HeapP z24 z25 s313 :: RowP (.slice p376 (hObjsF s313.a).length c377) (hObjsF s313.a) :: RowP (.slice p84 L71.length c85) L71 :: ps) w ∧ HeapOver.l7 k L71 s313 kI x386 = some r0) k ⟨0, hF384, hS372, hm362⟩ ?_
                    rintro k387 a388 w389 ⟨x386, hF390, hS391, hm392⟩
                    clear hF384 hS372 hm362
                    cases k387 with
                    | zero => cases hm392
                    | succ k387 =>
                      have hm393 : HeapOver.l7b k L71 s313 (HeapOver.l7 k L71 s313 k387) x386 = some r0 := hm392
                      clear hm392
                      unfold HeapOver.l7b at hm393
                      refine wp_seq ?_
                      refine wp_seq ?_
                      refine wp_region_lit ?_
                      refine ev_runs 4 hF390 (l' := [(117, .bool (decide (x386 < ((L71.length : Int))))), (116, .int .i64 ((L71.length : Int))), (115, .slice p84 L71.length c85), (114, .int .i64 (x386)), (18, .int .i64 (x386)), (17, .slice p376 (hObjsF s313.a).length c377), (8, .slice p84 L71.length c85), (5, .pointer (some ⟨z24, 0, none⟩))]) (w' := w389) (by kernel_rfl) ?_
                      intro a395 hF394; clear hF390
                      refine wpList_nil ?_
                      have hF396 : Fr 137 a395 [(117, .bool (decide (x386 < ((L71.length : Int))))), (18, .int .i64 (x386)), (17, .slice p376 (hObjsF s313.a).length c377), (8, .slice p84 L71.length c85), (5, .pointer (some ⟨z24, 0, none⟩))] := hF394.keep [5, 8, 17, 18, 117]
                      clear hF394
                      refine thenN ?_
                      cases hc397 : (decide (x386 < ((L71.length : Int)))) with
                      | true =>
                        rw [hc397] at hF396
                        rw [hc397] at hm393
                        have hm398 := ifT hm393; clear hm393
                        refine ev_condT hF396 rfl rfl ?_
                        refine wp_skip ?_
                        have hF399 : Fr 137 a395 [(18, .int .i64 (x386)), (17, .slice p376 (hObjsF s313.a).length c377), (8, .slice p84 L71.length c85), (5, .pointer (some ⟨z24, 0, none⟩))] := hF396.keep [5, 8, 17, 18]
                        clear hF396
                        refine thenN ?_
                        refine wp_seq ?_
                        refine wp_block ?_
                        refine wp_seq ?_
                        refine wp_region_lit ?_
                        refine ev_runs 3 hF399 (l' := [(122, .int .i64 (x386)), (121, .slice p84 L71.length c85), (120, .slice p376 (hObjsF s313.a).length c377), (18, .int .i64 (x386)), (17, .slice p376 (hObjsF s313.a).length c377), (8, .slice p84 L71.length c85), (5, .pointer (some ⟨z24, 0, none⟩))]) (w' := w389) (by kernel_rfl) ?_
                        intro a401 hF400; clear hF399
                        cases hc402 : (inR x386 L71.length) with
                        | false => rw [hc402] at hm398; cases hm398
                        | true =>
                          rw [hc402] at hm398
                          have hm403 := ifT hm398; clear hm398
                          obtain ⟨g404, rfl⟩ := hp86.resolve_left (by have := inR_spec hc402; omega)
                          refine ev_one (.pointer (some ⟨g404, x386.toNat, none⟩)) w389 hF400 (by kernel_rfl) rfl (by kernel_rfl) (run_idx rfl rfl rfl rfl rfl (inR_spec hc402).1 (inR_spec hc402).2 _) (l' := [(123, .pointer (some ⟨g404, x386.toNat, none⟩)), (122, .int .i64 (x386)), (121, .slice (some ⟨g404, 0, none⟩) L71.length c85), (120, .slice p376 (hObjsF s313.a).length c377), (18, .int .i64 (x386)), (17, .slice p376 (hObjsF s313.a).length c377), (8, .slice (some ⟨g404, 0, none⟩) L71.length c85), (5, .pointer (some ⟨z24, 0, none⟩))]) (by kernel_rfl) ?_
                          intro a406 hF405; clear hF400
                          refine ev_one (.int .i64 (atI L71 x386)) w389 hF405 (by kernel_rfl) rfl (by kernel_rfl) (run_load1 rfl rfl rfl (hS391.atI 2 rfl hc402)) (l' := [(124, .int .i64 (atI L71 x386)), (123, .pointer (some ⟨g404, x386.toNat, none⟩)), (122, .int .i64 (x386)), (121, .slice (some ⟨g404, 0, none⟩) L71.length c85), (120, .slice p376 (hObjsF s313.a).length c377), (18, .int .i64 (x386)), (17, .slice p376 (hObjsF s313.a).length c377), (8, .slice (some ⟨g404, 0, none⟩) L71.length c85), (5, .pointer (some ⟨z24, 0, none⟩))]) (by kernel_rfl) ?_
                          intro a408 hF407; clear hF405
                          have hS409 : St w0 F0 (RowP (.slice p376 (hObjsF s313.a).length c377) (hObjsF s313.a) :: HeapP z24 z25 s313 :: RowP (.slice (some ⟨g404, 0, none⟩) L71.length c85) L71 :: ps) w389 := St.ordP [HeapP z24 z25 s313, RowP (.slice p376 (hObjsF s313.a).length c377) (hObjsF s313.a), RowP (.slice (some ⟨g404, 0, none⟩) L71.length c85) L71] ps hS391 [1, 0, 2] [] (by kernel_rfl)
                          clear hS391
                          refine ev_call 39 #[.slice p376 (hObjsF s313.a).length c377, .int .i64 (atI L71 x386)] hF407 rfl rfl (by kernel_rfl) rfl (by kernel_rfl) (fun w => by kernel_rfl) ?_
                          obtain ⟨y410, hx411, hm412⟩ := bind1E hm403; clear hm403
                          refine (help_In.ok hS409 hx411).mono ?_
                          rintro _ w413 ⟨rfl, hS415⟩ a414 hF416; clear hF407 hS409
                          have hF417 : Fr 137 a414 [(125, .bool (y410)), (124, .int .i64 (atI L71 x386)), (123, .pointer (some ⟨g404, x386.toNat, none⟩)), (122, .int .i64 (x386)), (121, .slice (some ⟨g404, 0, none⟩) L71.length c85), (120, .slice p376 (hObjsF s313.a).length c377), (18, .int .i64 (x386)), (17, .slice p376 (hObjsF s313.a).length c377), (8, .slice (some ⟨g404, 0, none⟩) L71.length c85), (5, .pointer (some ⟨z24, 0, none⟩))] := hF416
                          clear hF416
                          refine ev_runs 1 hF417 (l' := [(126, .bool (!(y410))), (125, .bool (y410)), (124, .int .i64 (atI L71 x386)), (123, .pointer (some ⟨g404, x386.toNat, none⟩)), (122, .int .i64 (x386)), (121, .slice (some ⟨g404, 0, none⟩) L71.length c85), (120, .slice p376 (hObjsF s313.a).length c377), (18, .int .i64 (x386)), (17, .slice p376 (hObjsF s313.a).length c377), (8, .slice (some ⟨g404, 0, none⟩) L71.length c85), (5, .pointer (some ⟨z24, 0, none⟩))]) (w' := w413) (by kernel_rfl) ?_
                          intro a419 hF418; clear hF417
                          refine wpList_nil ?_
                          have hF420 : Fr 137 a419 [(126, .bool (!(y410))), (18, .int .i64 (x386)), (17, .slice p376 (hObjsF s313.a).length c377), (8, .slice (some ⟨g404, 0, none⟩) L71.length c85), (5, .pointer (some ⟨z24, 0, none⟩))] := hF418.keep [5, 8, 17, 18, 126]
                          clear hF418
                          refine thenN ?_
                          cases hc421 : (!(y410)) with
                          | true =>
                            rw [hc421] at hF420
                            rw [hc421] at hm412
                            have hm422 := ifT hm412; clear hm412
                            refine ev_condT hF420 rfl rfl ?_
                            refine wp_seq ?_
                            refine wp_region_lit ?_
                            refine ev_runs 1 hF420 (l' := [(4, .bool false), (126, .bool true), (18, .int .i64 (x386)), (17, .slice p376 (hObjsF s313.a).length c377), (8, .slice (some ⟨g404, 0, none⟩) L71.length c85), (5, .pointer (some ⟨z24, 0, none⟩))]) (w' := w413) (by kernel_rfl) ?_
                            intro a424 hF423; clear hF420
                            refine wpList_nil ?_
                            have hF425 : Fr 137 a424 [(4, .bool false)] := hF423.keep [4]
                            clear hF423
                            have hS426 : St w0 F0 (ps) w413 := St.ordP [RowP (.slice p376 (hObjsF s313.a).length c377) (hObjsF s313.a), HeapP z24 z25 s313, RowP (.slice (some ⟨g404, 0, none⟩) L71.length c85) L71] ps hS415 [] [0, 1, 2] (by kernel_rfl)
                            clear hS415
                            refine thenN ?_
                            refine wp_ret ?_
                            refine blockR ?_
                            refine thenR ?_
                            refine thenR ?_
                            refine blockR ?_
                            refine thenR ?_
                            obtain rfl := Option.some.inj hm422
                            refine ev_ret hF425 [4] (.bool false) rfl rfl rfl ?_
                            exact ⟨rfl, hS426⟩
                          | false =>
                            rw [hc421] at hF420
                            rw [hc421] at hm412
                            have hm428 := ifF hm412; clear hm412
                            refine ev_condF hF420 rfl rfl ?_
                            refine wp_skip ?_
                            have hF429 : Fr 137 a419 [(18, .int .i64 (x386)), (17, .slice p376 (hObjsF s313.a).length c377), (8, .slice (some ⟨g404, 0, none⟩) L71.length c85), (5, .pointer (some ⟨z24, 0, none⟩))] := hF420.keep [5, 8, 17, 18]
                            clear hF420
                            refine blockN ?_
                            refine thenN ?_
                            refine wp_region_lit ?_
                            refine ev_runs 3 hF429 (l' := [(18, .int .i64 (IntKind.i64.wrap (x386 + 1))), (119, .int .i64 (IntKind.i64.wrap (x386 + 1))), (118, .int .i64 (x386)), (17, .slice p376 (hObjsF s313.a).length c377), (8, .slice (some ⟨g404, 0, none⟩) L71.length c85), (5, .pointer (some ⟨z24, 0, none⟩))]) (w' := w413) (by kernel_rfl) ?_
                            intro a431 hF430; clear hF429
                            refine wpList_nil ?_
                            have hF432 : Fr 137 a431 [(18, .int .i64 (IntKind.i64.wrap (x386 + 1))), (17, .slice p376 (hObjsF s313.a).length c377), (8, .slice (some ⟨g404, 0, none⟩) L71.length c85), (5, .pointer (some ⟨z24, 0, none⟩))] := hF430.keep [5, 8, 17, 18]
                            clear hF430
                            have hS433 : St w0 F0 (HeapP z24 z25 s313 :: RowP (.slice p376 (hObjsF s313.a).length c377) (hObjsF s313.a) :: RowP (.slice (some ⟨g404, 0, none⟩) L71.length c85) L71 :: ps) w413 := St.ordP [RowP (.slice p376 (hObjsF s313.a).length c377) (hObjsF s313.a), HeapP z24 z25 s313, RowP (.slice (some ⟨g404, 0, none⟩) L71.length c85) L71] ps hS415 [1, 0, 2] [] (by kernel_rfl)
                            clear hS415
                            exact thenN ⟨k387, Nat.lt_succ_self _, IntKind.i64.wrap (x386 + 1), hF432, hS433, hm428⟩
                      | false =>
                        rw [hc397] at hF396
                        rw [hc397] at hm393
                        have hm434 := ifF hm393; clear hm393
                        refine ev_condF hF396 rfl rfl ?_
                        refine wp_exit ?_
                        refine thenE ?_
                        refine thenE ?_
                        refine blockE ?_
                        refine thenN ?_
                        refine wp_seq ?_
                        refine wp_region_lit ?_
                        refine ev_runs 6 hF396 (l' := [(132, .bool ((((hObjsF s313.a).length : Int)) == ((L71.length : Int)))), (131, .bool ((((hObjsF s313.a).length : Int)) == ((L71.length : Int)))), (130, .int .i64 ((L71.length : Int))), (129, .slice p84 L71.length c85), (128, .int .i64 (((hObjsF s313.a).length : Int))), (127, .slice p376 (hObjsF s313.a).length c377), (117, .bool false), (18, .int .i64 (x386)), (17, .slice p376 (hObjsF s313.a).length c377), (8, .slice p84 L71.length c85), (5, .pointer (some ⟨z24, 0, none⟩))]) (w' := w389) (by kernel_rfl) ?_
                        intro a436 hF435; clear hF396
                        cases hc437 : ((((hObjsF s313.a).length : Int)) == ((L71.length : Int))) with
                        | true =>
                          rw [hc437] at hF435
                          rw [hc437] at hm434
                          have hm438 := ifT hm434; clear hm434
                          refine ev_runs 1 hF435 (l' := [(133, .pointer (some ⟨z24, 0, none⟩)), (132, .bool true), (131, .bool true), (130, .int .i64 ((L71.length : Int))), (129, .slice p84 L71.length c85), (128, .int .i64 (((hObjsF s313.a).length : Int))), (127, .slice p376 (hObjsF s313.a).length c377), (117, .bool false), (18, .int .i64 (x386)), (17, .slice p376 (hObjsF s313.a).length c377), (8, .slice p84 L71.length c85), (5, .pointer (some ⟨z24, 0, none⟩))]) (w' := w389) (by kernel_rfl) ?_
                          intro a440 hF439; clear hF435
                          refine ev_call 34 #[.pointer (some ⟨z24, 0, none⟩)] hF439 rfl rfl (by kernel_rfl) rfl (by kernel_rfl) (fun w => by kernel_rfl) ?_
                          refine (p_Cycles hS391).mono ?_
                          rintro _ w441 ⟨rfl, hS443⟩ a442 hF444; clear hF439 hS391
                          have hF445 : Fr 137 a442 [(134, .int .i64 (s313.cy)), (133, .pointer (some ⟨z24, 0, none⟩)), (132, .bool true), (131, .bool true), (130, .int .i64 ((L71.length : Int))), (129, .slice p84 L71.length c85), (128, .int .i64 (((hObjsF s313.a).length : Int))), (127, .slice p376 (hObjsF s313.a).length c377), (117, .bool false), (18, .int .i64 (x386)), (17, .slice p376 (hObjsF s313.a).length c377), (8, .slice p84 L71.length c85), (5, .pointer (some ⟨z24, 0, none⟩))] := hF444
                          clear hF444
                          refine ev_runs 3 hF445 (l' := [(4, .bool (s313.cy == 1)), (136, .bool (s313.cy == 1)), (135, .bool (s313.cy == 1)), (134, .int .i64 (s313.cy)), (133, .pointer (some ⟨z24, 0, none⟩)), (132, .bool true), (131, .bool true), (130, .int .i64 ((L71.length : Int))), (129, .slice p84 L71.length c85), (128, .int .i64 (((hObjsF s313.a).length : Int))), (127, .slice p376 (hObjsF s313.a).length c377), (117, .bool false), (18, .int .i64 (x386)), (17, .slice p376 (hObjsF s313.a).length c377), (8, .slice p84 L71.length c85), (5, .pointer (some ⟨z24, 0, none⟩))]) (w' := w441) (by kernel_rfl) ?_
                          intro a447 hF446; clear hF445
                          refine wpList_nil ?_
                          have hF448 : Fr 137 a447 [(4, .bool (s313.cy == 1))] := hF446.keep [4]
                          clear hF446
                          have hS449 : St w0 F0 (ps) w441 := St.ordP [HeapP z24 z25 s313, RowP (.slice p376 (hObjsF s313.a).length c377) (hObjsF s313.a), RowP (.slice p84 L71.length c85) L71] ps hS443 [] [0, 1, 2] (by kernel_rfl)
                          clear hS443
                          refine thenN ?_
                          refine wp_ret ?_
                          obtain rfl := Option.some.inj hm438
                          refine ev_ret hF448 [4] (.bool (s313.cy == 1)) rfl rfl rfl ?_
                          exact ⟨rfl, hS449⟩
                        | false =>
                          rw [hc437] at hF435
                          rw [hc437] at hm434
                          have hm451 := ifF hm434; clear hm434
                          refine ev_runs 5 hF435 (l' := [(4, .bool false), (136, .bool false), (135, .tuple #[]), (134, .tuple #[]), (133, .tuple #[]), (132, .bool false), (131, .bool false), (130, .int .i64 ((L71.length : Int))), (129, .slice p84 L71.length c85), (128, .int .i64 (((hObjsF s313.a).length : Int))), (127, .slice p376 (hObjsF s313.a).length c377), (117, .bool false), (18, .int .i64 (x386)), (17, .slice p376 (hObjsF s313.a).length c377), (8, .slice p84 L71.length c85), (5, .pointer (some ⟨z24, 0, none⟩))]) (w' := w389) (by kernel_rfl) ?_
                          intro a453 hF452; clear hF435
                          refine wpList_nil ?_
                          have hF454 : Fr 137 a453 [(4, .bool false)] := hF452.keep [4]
                          clear hF452
                          have hS455 : St w0 F0 (ps) w389 := St.ordP [HeapP z24 z25 s313, RowP (.slice p376 (hObjsF s313.a).length c377) (hObjsF s313.a), RowP (.slice p84 L71.length c85) L71] ps hS391 [] [0, 1, 2] (by kernel_rfl)
                          clear hS391
                          refine thenN ?_
                          refine wp_ret ?_
                          obtain rfl := Option.some.inj hm451
                          refine ev_ret hF454 [4] (.bool false) rfl rfl rfl ?_
                          exact ⟨rfl, hS455⟩
                | false =>
                  rw [hc324] at hF322
                  rw [hc324] at hm321
                  have hm457 := ifF hm321; clear hm321
                  refine ev_runs 4 hF322 (l' := [(106, .bool false), (105, .tuple #[]), (104, .tuple #[]), (103, .tuple #[]), (102, .bool false), (101, .bool false), (100, .int .i64 (x314)), (16, .int .i64 (x314)), (8, .slice p84 L71.length c85), (5, .pointer (some ⟨z24, 0, none⟩))]) (w' := w317) (by kernel_rfl) ?_
                  intro a459 hF458; clear hF322
                  refine wpList_nil ?_
                  have hF460 : Fr 137 a459 [(106, .bool false), (105, .tuple #[]), (104, .tuple #[]), (103, .tuple #[]), (16, .int .i64 (x314)), (8, .slice p84 L71.length c85), (5, .pointer (some ⟨z24, 0, none⟩))] := hF458.keep [5, 8, 16, 103, 104, 105, 106]
                  clear hF458
                  refine thenN ?_
                  refine ev_condF hF460 rfl rfl ?_
                  refine wp_exit ?_
                  refine thenE ?_
                  refine thenE ?_
                  refine blockE ?_
                  refine thenN ?_
                  refine wp_seq ?_
                  refine wp_region_lit ?_
                  refine ev_runs 1 hF460 (l' := [(111, .pointer (some ⟨z24, 0, none⟩)), (106, .bool false), (105, .tuple #[]), (104, .tuple #[]), (103, .tuple #[]), (16, .int .i64 (x314)), (8, .slice p84 L71.length c85), (5, .pointer (some ⟨z24, 0, none⟩))]) (w' := w317) (by kernel_rfl) ?_
                  intro a462 hF461; clear hF460
                  refine ev_call 24 #[.pointer (some ⟨z24, 0, none⟩)] hF461 rfl rfl (by kernel_rfl) rfl (by kernel_rfl) (fun w => by kernel_rfl) ?_
                  refine (p_Arena hS319).mono ?_
                  rintro _ w463 ⟨rfl, hS465⟩ a464 hF466; clear hF461 hS319
                  have hF467 : Fr 137 a464 [(112, .pointer (some ⟨z25, 0, none⟩)), (111, .pointer (some ⟨z24, 0, none⟩)), (106, .bool false), (105, .tuple #[]), (104, .tuple #[]), (103, .tuple #[]), (16, .int .i64 (x314)), (8, .slice p84 L71.length c85), (5, .pointer (some ⟨z24, 0, none⟩))] := hF466
                  clear hF466
                  refine ev_call 25 #[.pointer (some ⟨z25, 0, none⟩)] hF467 rfl rfl (by kernel_rfl) rfl (by kernel_rfl) (fun w => by kernel_rfl) ?_
                  refine (p_Objects hS465).mono ?_
                  rintro _ w468 ⟨z472, rfl, hS470⟩ a469 hF471; clear hF467 hS465
                  obtain ⟨hl477, p474, c475, rfl, hp476⟩ := St.shape hS470 1 rfl
                  have hF478 : Fr 137 a469 [(113, .slice p474 (hObjsF s313.a).length c475), (112, .pointer (some ⟨z25, 0, none⟩)), (111, .pointer (some ⟨z24, 0, none⟩)), (106, .bool false), (105, .tuple #[]), (104, .tuple #[]), (103, .tuple #[]), (16, .int .i64 (x314)), (8, .slice p84 L71.length c85), (5, .pointer (some ⟨z24, 0, none⟩))] := hF471
                  clear hF471
                  refine ev_runs 1 hF478 (l' := [(17, .slice p474 (hObjsF s313.a).length c475), (113, .slice p474 (hObjsF s313.a).length c475), (112, .pointer (some ⟨z25, 0, none⟩)), (111, .pointer (some ⟨z24, 0, none⟩)), (106, .bool false), (105, .tuple #[]), (104, .tuple #[]), (103, .tuple #[]), (16, .int .i64 (x314)), (8, .slice p84 L71.length c85), (5, .pointer (some ⟨z24, 0, none⟩))]) (w' := w468) (by kernel_rfl) ?_
                  intro a480 hF479; clear hF478
                  refine wpList_nil ?_
                  have hF481 : Fr 137 a480 [(17, .slice p474 (hObjsF s313.a).length c475), (8, .slice p84 L71.length c85), (5, .pointer (some ⟨z24, 0, none⟩))] := hF479.keep [5, 8, 17]
                  clear hF479
                  refine thenN ?_
                  refine wp_seq ?_
                  refine wp_seq ?_
                  refine wp_region_lit ?_
                  refine ev_runs 1 hF481 (l' := [(18, .int .i64 0), (17, .slice p474 (hObjsF s313.a).length c475), (8, .slice p84 L71.length c85), (5, .pointer (some ⟨z24, 0, none⟩))]) (w' := w468) (by kernel_rfl) ?_
                  intro a483 hF482; clear hF481
                  refine wpList_nil ?_
                  refine thenN ?_
                  refine wp_block ?_
                  refine wp_loop_ghost (fun kI a w => ∃ (x484 : Int), Fr 137 a [(18, .int .i64 (x484)), (17, .slice p474 (hObjsF s313.a).length c475), (8, .slice p84 L71.length c85), (5, .pointer (some ⟨z24, 0, none⟩))] ∧ St w0 F0 (HeapP z24 z25 s313 :: RowP (.slice p474 (hObjsF s313.a).length c475) (hObjsF s313.a) :: RowP (.slice p84 L71.length c85) L71 :: ps) w ∧ HeapOver.l8 k L71 s313 kI x484 = some r0) k ⟨0, hF482, hS470, hm457⟩ ?_
                  rintro k485 a486 w487 ⟨x484, hF488, hS489, hm490⟩
                  clear hF482 hS470 hm457
                  cases k485 with
                  | zero => cases hm490
                  | succ k485 =>
                    have hm491 : HeapOver.l8b k L71 s313 (HeapOver.l8 k L71 s313 k485) x484 = some r0 := hm490
                    clear hm490
                    unfold HeapOver.l8b at hm491
                    refine wp_seq ?_
                    refine wp_seq ?_
                    refine wp_region_lit ?_
                    refine ev_runs 4 hF488 (l' := [(117, .bool (decide (x484 < ((L71.length : Int))))), (116, .int .i64 ((L71.length : Int))), (115, .slice p84 L71.length c85), (114, .int .i64 (x484)), (18, .int .i64 (x484)), (17, .slice p474 (hObjsF s313.a).length c475), (8, .slice p84 L71.length c85), (5, .pointer (some ⟨z24, 0, none⟩))]) (w' := w487) (by kernel_rfl) ?_
                    intro a493 hF492; clear hF488
                    refine wpList_nil ?_
                    have hF494 : Fr 137 a493 [(117, .bool (decide (x484 < ((L71.length : Int))))), (18, .int .i64 (x484)), (17, .slice p474 (hObjsF s313.a).length c475), (8, .slice p84 L71.length c85), (5, .pointer (some ⟨z24, 0, none⟩))] := hF492.keep [5, 8, 17, 18, 117]
                    clear hF492
                    refine thenN ?_
                    cases hc495 : (decide (x484 < ((L71.length : Int)))) with
                    | true =>
                      rw [hc495] at hF494
                      rw [hc495] at hm491
                      have hm496 := ifT hm491; clear hm491
                      refine ev_condT hF494 rfl rfl ?_
                      refine wp_skip ?_
                      have hF497 : Fr 137 a493 [(18, .int .i64 (x484)), (17, .slice p474 (hObjsF s313.a).length c475), (8, .slice p84 L71.length c85), (5, .pointer (some ⟨z24, 0, none⟩))] := hF494.keep [5, 8, 17, 18]
                      clear hF494
                      refine thenN ?_
                      refine wp_seq ?_
                      refine wp_block ?_
                      refine wp_seq ?_
                      refine wp_region_lit ?_
                      refine ev_runs 3 hF497 (l' := [(122, .int .i64 (x484)), (121, .slice p84 L71.length c85), (120, .slice p474 (hObjsF s313.a).length c475), (18, .int .i64 (x484)), (17, .slice p474 (hObjsF s313.a).length c475), (8, .slice p84 L71.length c85), (5, .pointer (some ⟨z24, 0, none⟩))]) (w' := w487) (by kernel_rfl) ?_
                      intro a499 hF498; clear hF497
                      cases hc500 : (inR x484 L71.length) with
                      | false => rw [hc500] at hm496; cases hm496
                      | true =>
                        rw [hc500] at hm496
                        have hm501 := ifT hm496; clear hm496
                        obtain ⟨g502, rfl⟩ := hp86.resolve_left (by have := inR_spec hc500; omega)
                        refine ev_one (.pointer (some ⟨g502, x484.toNat, none⟩)) w487 hF498 (by kernel_rfl) rfl (by kernel_rfl) (run_idx rfl rfl rfl rfl rfl (inR_spec hc500).1 (inR_spec hc500).2 _) (l' := [(123, .pointer (some ⟨g502, x484.toNat, none⟩)), (122, .int .i64 (x484)), (121, .slice (some ⟨g502, 0, none⟩) L71.length c85), (120, .slice p474 (hObjsF s313.a).length c475), (18, .int .i64 (x484)), (17, .slice p474 (hObjsF s313.a).length c475), (8, .slice (some ⟨g502, 0, none⟩) L71.length c85), (5, .pointer (some ⟨z24, 0, none⟩))]) (by kernel_rfl) ?_
                        intro a504 hF503; clear hF498
                        refine ev_one (.int .i64 (atI L71 x484)) w487 hF503 (by kernel_rfl) rfl (by kernel_rfl) (run_load1 rfl rfl rfl (hS489.atI 2 rfl hc500)) (l' := [(124, .int .i64 (atI L71 x484)), (123, .pointer (some ⟨g502, x484.toNat, none⟩)), (122, .int .i64 (x484)), (121, .slice (some ⟨g502, 0, none⟩) L71.length c85), (120, .slice p474 (hObjsF s313.a).length c475), (18, .int .i64 (x484)), (17, .slice p474 (hObjsF s313.a).length c475), (8, .slice (some ⟨g502, 0, none⟩) L71.length c85), (5, .pointer (some ⟨z24, 0, none⟩))]) (by kernel_rfl) ?_
                        intro a506 hF505; clear hF503
                        have hS507 : St w0 F0 (RowP (.slice p474 (hObjsF s313.a).length c475) (hObjsF s313.a) :: HeapP z24 z25 s313 :: RowP (.slice (some ⟨g502, 0, none⟩) L71.length c85) L71 :: ps) w487 := St.ordP [HeapP z24 z25 s313, RowP (.slice p474 (hObjsF s313.a).length c475) (hObjsF s313.a), RowP (.slice (some ⟨g502, 0, none⟩) L71.length c85) L71] ps hS489 [1, 0, 2] [] (by kernel_rfl)
                        clear hS489
                        refine ev_call 39 #[.slice p474 (hObjsF s313.a).length c475, .int .i64 (atI L71 x484)] hF505 rfl rfl (by kernel_rfl) rfl (by kernel_rfl) (fun w => by kernel_rfl) ?_
                        obtain ⟨y508, hx509, hm510⟩ := bind1E hm501; clear hm501
                        refine (help_In.ok hS507 hx509).mono ?_
                        rintro _ w511 ⟨rfl, hS513⟩ a512 hF514; clear hF505 hS507
                        have hF515 : Fr 137 a512 [(125, .bool (y508)), (124, .int .i64 (atI L71 x484)), (123, .pointer (some ⟨g502, x484.toNat, none⟩)), (122, .int .i64 (x484)), (121, .slice (some ⟨g502, 0, none⟩) L71.length c85), (120, .slice p474 (hObjsF s313.a).length c475), (18, .int .i64 (x484)), (17, .slice p474 (hObjsF s313.a).length c475), (8, .slice (some ⟨g502, 0, none⟩) L71.length c85), (5, .pointer (some ⟨z24, 0, none⟩))] := hF514
                        clear hF514
                        refine ev_runs 1 hF515 (l' := [(126, .bool (!(y508))), (125, .bool (y508)), (124, .int .i64 (atI L71 x484)), (123, .pointer (some ⟨g502, x484.toNat, none⟩)), (122, .int .i64 (x484)), (121, .slice (some ⟨g502, 0, none⟩) L71.length c85), (120, .slice p474 (hObjsF s313.a).length c475), (18, .int .i64 (x484)), (17, .slice p474 (hObjsF s313.a).length c475), (8, .slice (some ⟨g502, 0, none⟩) L71.length c85), (5, .pointer (some ⟨z24, 0, none⟩))]) (w' := w511) (by kernel_rfl) ?_
                        intro a517 hF516; clear hF515
                        refine wpList_nil ?_
                        have hF518 : Fr 137 a517 [(126, .bool (!(y508))), (18, .int .i64 (x484)), (17, .slice p474 (hObjsF s313.a).length c475), (8, .slice (some ⟨g502, 0, none⟩) L71.length c85), (5, .pointer (some ⟨z24, 0, none⟩))] := hF516.keep [5, 8, 17, 18, 126]
                        clear hF516
                        refine thenN ?_
                        cases hc519 : (!(y508)) with
                        | true =>
                          rw [hc519] at hF518
                          rw [hc519] at hm510
                          have hm520 := ifT hm510; clear hm510
                          refine ev_condT hF518 rfl rfl ?_
                          refine wp_seq ?_
                          refine wp_region_lit ?_
                          refine ev_runs 1 hF518 (l' := [(4, .bool false), (126, .bool true), (18, .int .i64 (x484)), (17, .slice p474 (hObjsF s313.a).length c475), (8, .slice (some ⟨g502, 0, none⟩) L71.length c85), (5, .pointer (some ⟨z24, 0, none⟩))]) (w' := w511) (by kernel_rfl) ?_
                          intro a522 hF521; clear hF518
                          refine wpList_nil ?_
                          have hF523 : Fr 137 a522 [(4, .bool false)] := hF521.keep [4]
                          clear hF521
                          have hS524 : St w0 F0 (ps) w511 := St.ordP [RowP (.slice p474 (hObjsF s313.a).length c475) (hObjsF s313.a), HeapP z24 z25 s313, RowP (.slice (some ⟨g502, 0, none⟩) L71.length c85) L71] ps hS513 [] [0, 1, 2] (by kernel_rfl)
                          clear hS513
                          refine thenN ?_
                          refine wp_ret ?_
                          refine blockR ?_
                          refine thenR ?_
                          refine thenR ?_
                          refine blockR ?_
                          refine thenR ?_
                          obtain rfl := Option.some.inj hm520
                          refine ev_ret hF523 [4] (.bool false) rfl rfl rfl ?_
                          exact ⟨rfl, hS524⟩
                        | false =>
                          rw [hc519] at hF518
                          rw [hc519] at hm510
                          have hm526 := ifF hm510; clear hm510
                          refine ev_condF hF518 rfl rfl ?_
                          refine wp_skip ?_
                          have hF527 : Fr 137 a517 [(18, .int .i64 (x484)), (17, .slice p474 (hObjsF s313.a).length c475), (8, .slice (some ⟨g502, 0, none⟩) L71.length c85), (5, .pointer (some ⟨z24, 0, none⟩))] := hF518.keep [5, 8, 17, 18]
                          clear hF518
                          refine blockN ?_
                          refine thenN ?_
                          refine wp_region_lit ?_
                          refine ev_runs 3 hF527 (l' := [(18, .int .i64 (IntKind.i64.wrap (x484 + 1))), (119, .int .i64 (IntKind.i64.wrap (x484 + 1))), (118, .int .i64 (x484)), (17, .slice p474 (hObjsF s313.a).length c475), (8, .slice (some ⟨g502, 0, none⟩) L71.length c85), (5, .pointer (some ⟨z24, 0, none⟩))]) (w' := w511) (by kernel_rfl) ?_
                          intro a529 hF528; clear hF527
                          refine wpList_nil ?_
                          have hF530 : Fr 137 a529 [(18, .int .i64 (IntKind.i64.wrap (x484 + 1))), (17, .slice p474 (hObjsF s313.a).length c475), (8, .slice (some ⟨g502, 0, none⟩) L71.length c85), (5, .pointer (some ⟨z24, 0, none⟩))] := hF528.keep [5, 8, 17, 18]
                          clear hF528
                          have hS531 : St w0 F0 (HeapP z24 z25 s313 :: RowP (.slice p474 (hObjsF s313.a).length c475) (hObjsF s313.a) :: RowP (.slice (some ⟨g502, 0, none⟩) L71.length c85) L71 :: ps) w511 := St.ordP [RowP (.slice p474 (hObjsF s313.a).length c475) (hObjsF s313.a), HeapP z24 z25 s313, RowP (.slice (some ⟨g502, 0, none⟩) L71.length c85) L71] ps hS513 [1, 0, 2] [] (by kernel_rfl)
                          clear hS513
                          exact thenN ⟨k485, Nat.lt_succ_self _, IntKind.i64.wrap (x484 + 1), hF530, hS531, hm526⟩
                    | false =>
                      rw [hc495] at hF494
                      rw [hc495] at hm491
                      have hm532 := ifF hm491; clear hm491
                      refine ev_condF hF494 rfl rfl ?_
                      refine wp_exit ?_
                      refine thenE ?_
                      refine thenE ?_
                      refine blockE ?_
                      refine thenN ?_
                      refine wp_seq ?_
                      refine wp_region_lit ?_
                      refine ev_runs 6 hF494 (l' := [(132, .bool ((((hObjsF s313.a).length : Int)) == ((L71.length : Int)))), (131, .bool ((((hObjsF s313.a).length : Int)) == ((L71.length : Int)))), (130, .int .i64 ((L71.length : Int))), (129, .slice p84 L71.length c85), (128, .int .i64 (((hObjsF s313.a).length : Int))), (127, .slice p474 (hObjsF s313.a).length c475), (117, .bool false), (18, .int .i64 (x484)), (17, .slice p474 (hObjsF s313.a).length c475), (8, .slice p84 L71.length c85), (5, .pointer (some ⟨z24, 0, none⟩))]) (w' := w487) (by kernel_rfl) ?_
                      intro a534 hF533; clear hF494
                      cases hc535 : ((((hObjsF s313.a).length : Int)) == ((L71.length : Int))) with
                      | true =>
                        rw [hc535] at hF533
                        rw [hc535] at hm532
                        have hm536 := ifT hm532; clear hm532
                        refine ev_runs 1 hF533 (l' := [(133, .pointer (some ⟨z24, 0, none⟩)), (132, .bool true), (131, .bool true), (130, .int .i64 ((L71.length : Int))), (129, .slice p84 L71.length c85), (128, .int .i64 (((hObjsF s313.a).length : Int))), (127, .slice p474 (hObjsF s313.a).length c475), (117, .bool false), (18, .int .i64 (x484)), (17, .slice p474 (hObjsF s313.a).length c475), (8, .slice p84 L71.length c85), (5, .pointer (some ⟨z24, 0, none⟩))]) (w' := w487) (by kernel_rfl) ?_
                        intro a538 hF537; clear hF533
                        refine ev_call 34 #[.pointer (some ⟨z24, 0, none⟩)] hF537 rfl rfl (by kernel_rfl) rfl (by kernel_rfl) (fun w => by kernel_rfl) ?_
                        refine (p_Cycles hS489).mono ?_
                        rintro _ w539 ⟨rfl, hS541⟩ a540 hF542; clear hF537 hS489
                        have hF543 : Fr 137 a540 [(134, .int .i64 (s313.cy)), (133, .pointer (some ⟨z24, 0, none⟩)), (132, .bool true), (131, .bool true), (130, .int .i64 ((L71.length : Int))), (129, .slice p84 L71.length c85), (128, .int .i64 (((hObjsF s313.a).length : Int))), (127, .slice p474 (hObjsF s313.a).length c475), (117, .bool false), (18, .int .i64 (x484)), (17, .slice p474 (hObjsF s313.a).length c475), (8, .slice p84 L71.length c85), (5, .pointer (some ⟨z24, 0, none⟩))] := hF542
                        clear hF542
                        refine ev_runs 3 hF543 (l' := [(4, .bool (s313.cy == 1)), (136, .bool (s313.cy == 1)), (135, .bool (s313.cy == 1)), (134, .int .i64 (s313.cy)), (133, .pointer (some ⟨z24, 0, none⟩)), (132, .bool true), (131, .bool true), (130, .int .i64 ((L71.length : Int))), (129, .slice p84 L71.length c85), (128, .int .i64 (((hObjsF s313.a).length : Int))), (127, .slice p474 (hObjsF s313.a).length c475), (117, .bool false), (18, .int .i64 (x484)), (17, .slice p474 (hObjsF s313.a).length c475), (8, .slice p84 L71.length c85), (5, .pointer (some ⟨z24, 0, none⟩))]) (w' := w539) (by kernel_rfl) ?_
                        intro a545 hF544; clear hF543
                        refine wpList_nil ?_
                        have hF546 : Fr 137 a545 [(4, .bool (s313.cy == 1))] := hF544.keep [4]
                        clear hF544
                        have hS547 : St w0 F0 (ps) w539 := St.ordP [HeapP z24 z25 s313, RowP (.slice p474 (hObjsF s313.a).length c475) (hObjsF s313.a), RowP (.slice p84 L71.length c85) L71] ps hS541 [] [0, 1, 2] (by kernel_rfl)
                        clear hS541
                        refine thenN ?_
                        refine wp_ret ?_
                        obtain rfl := Option.some.inj hm536
                        refine ev_ret hF546 [4] (.bool (s313.cy == 1)) rfl rfl rfl ?_
                        exact ⟨rfl, hS547⟩
                      | false =>
                        rw [hc535] at hF533
                        rw [hc535] at hm532
                        have hm549 := ifF hm532; clear hm532
                        refine ev_runs 5 hF533 (l' := [(4, .bool false), (136, .bool false), (135, .tuple #[]), (134, .tuple #[]), (133, .tuple #[]), (132, .bool false), (131, .bool false), (130, .int .i64 ((L71.length : Int))), (129, .slice p84 L71.length c85), (128, .int .i64 (((hObjsF s313.a).length : Int))), (127, .slice p474 (hObjsF s313.a).length c475), (117, .bool false), (18, .int .i64 (x484)), (17, .slice p474 (hObjsF s313.a).length c475), (8, .slice p84 L71.length c85), (5, .pointer (some ⟨z24, 0, none⟩))]) (w' := w487) (by kernel_rfl) ?_
                        intro a551 hF550; clear hF533
                        refine wpList_nil ?_
                        have hF552 : Fr 137 a551 [(4, .bool false)] := hF550.keep [4]
                        clear hF550
                        have hS553 : St w0 F0 (ps) w487 := St.ordP [HeapP z24 z25 s313, RowP (.slice p474 (hObjsF s313.a).length c475) (hObjsF s313.a), RowP (.slice p84 L71.length c85) L71] ps hS489 [] [0, 1, 2] (by kernel_rfl)
                        clear hS489
                        refine thenN ?_
                        refine wp_ret ?_
                        obtain rfl := Option.some.inj hm549
                        refine ev_ret hF552 [4] (.bool false) rfl rfl rfl ?_
                        exact ⟨rfl, hS553⟩

end Go.Proofs.Ytdnelekoplkkcaa
