/- To TakeOnceW TakeOnce -/
import Derived.Test.YtgejcjcpchofiaaGreatKG16
import Derived.Test.YtgejcjcpchofiaaGreatKTw16
import Derived.Test.YtgejcjcpchofiaaGreatKPrimV
import Derived.KernelRfl
import Derived.Test.YtgejcjcpchofiaaGreatRows
import Derived.WalkKit
import Derived.WalkSpells
import Derived.WalkLawsBesides
import Derived.ProofKit
import Derived.OpenShut
namespace Go.Proofs.YtgejcjcpchofiaaGreat
open Go.RowKit
set_option linter.unusedVariables false
set_option maxRecDepth 100000
namespace to
def P0 (w0 w1:Int):HSt:=stL [(2,[true,true]),(2,[true,false])] 58 [(0,1,9,[0,0,0,0,0,0,0,0,0]),(6,1,9,[0,0,0,0,0,0,0,0,0]),(6,4,10,[0,0,0,0,0,0,0,0,0,0])] 1877 [32,16,0]
def U0 (w0 w1:Int):HSt:=stL [(2,[true,true]),(2,[true,false])] 58 [(0,1,9,[0,0,0,0,0,0,0,0,0]),(6,1,9,[0,0,0,0,0,0,0,0,0]),(6,4,10,[0,0,0,0,0,0,0,0,0,0])] 1877 [32,16,0]
theorem m0:law16_made.m 100 [0,0] 0=some (P0 0 0,U0 0 0,[0,16],[32]):=by kernel_rfl
def P1 (w0 w1:Int):HSt:=stL [(2,[true,true]),(2,[true,false]),(1,[true,true,false,false])] 57 [(0,1,9,[0,0,0,0,0,0,0,129,129]),(6,1,9,[0,0,0,0,0,0,0,145,145]),(6,4,10,[0,2,0,0,0,0,0,0,0,129]),(21,3,7,[65,1,w0,0,40,(-2),145]),(0,3,7,[65,33,w1,0,42,(-2),0])] 1840 [72,64,32,16,0]
def U1 (w0 w1:Int):HSt:=stL [(2,[true,true]),(2,[true,false]),(1,[true,true,false,false])] 57 [(0,1,9,[0,0,0,0,0,0,0,129,129]),(6,1,9,[0,0,0,0,0,0,0,145,145]),(6,4,10,[0,2,0,0,0,0,0,0,0,129]),(21,3,7,[65,1,w0,0,40,(-2),145]),(0,3,7,[65,33,w1,0,42,(-2),0])] 1840 [72,64,32,16,0]
theorem w0 (v:Int):law16_waitI.m 100 (P0 0 0) (U0 0 0) [0,16] [32] 32 [atI [0,16] 0,atI [0,16] 1] [true,true] v 20=some (true,P1 (IntKind.i64.wrap (v+(IntKind.i64.wrap (2 * 0)))) (IntKind.i64.wrap (v+(IntKind.i64.wrap (2 * 1)))),U1 (IntKind.i64.wrap (v+(IntKind.i64.wrap (2 * 0)))) (IntKind.i64.wrap (v+(IntKind.i64.wrap (2 * 1))))):=by kernel_rfl
def A0 (w0 w1:Int):HSt:=stL [(2,[true,true]),(2,[true,false]),(1,[true,true,false,false])] 57 [(0,1,9,[0,0,0,0,0,0,0,0,0]),(6,1,9,[0,0,0,0,0,0,0,0,0]),(6,4,10,[0,0,40,0,0,0,0,0,0,0]),(21,3,7,[65,1,w0,0,40,(-2),145]),(0,3,7,[65,33,w1,0,42,(-2),0])] 1840 [72,64,32,16,0]
def B0 (w0 w1:Int):HSt:=stL [(2,[true,true]),(2,[true,false]),(1,[true,true,false,false])] 57 [(0,1,9,[0,0,0,0,0,0,0,0,0]),(6,1,9,[0,0,0,0,0,0,0,0,0]),(6,4,10,[0,0,40,0,0,0,0,0,0,0]),(21,3,7,[65,1,w0,0,40,(-2),145]),(0,3,7,[65,33,w1,0,42,(-2),0])] 1840 [72,64,32,16,0]
theorem k0 (w0 w1:Int):take_TryI.m 100 (P1 w0 w1) (IntKind.i64.wrap ((IntKind.i64.wrap (2 * (atI [0,16] 0)))+1))=some (w0,32,1,A0 w0 w1):=by kernel_rfl
theorem n0 (w0 w1:Int):take_TryI.m 100 (A0 w0 w1) (IntKind.i64.wrap ((IntKind.i64.wrap (2 * (atI [0,16] 1)))+1))=some (0,-1,0,B0 w0 w1):=by kernel_rfl
theorem g0 (w0 w1:Int):view_Gor.m 100 (B0 w0 w1) 32=some (⟨0,0,20,0,0,0,0,0,0,-1⟩,0,B0 w0 w1):=by kernel_rfl
def A1 (w0 w1:Int):HSt:=stL [(2,[true,true]),(2,[true,false]),(1,[true,true,false,false])] 57 [(0,1,9,[0,0,0,0,0,0,0,0,0]),(6,1,9,[0,0,0,0,0,0,0,0,0]),(6,4,10,[0,0,42,0,0,0,0,0,0,0]),(21,3,7,[65,1,w0,0,40,(-2),145]),(0,3,7,[65,33,w1,0,42,(-2),0])] 1840 [72,64,32,16,0]
def B1 (w0 w1:Int):HSt:=stL [(2,[true,true]),(2,[true,false]),(1,[true,true,false,false])] 57 [(0,1,9,[0,0,0,0,0,0,0,0,0]),(6,1,9,[0,0,0,0,0,0,0,0,0]),(6,4,10,[0,0,42,0,0,0,0,0,0,0]),(21,3,7,[65,1,w0,0,40,(-2),145]),(0,3,7,[65,33,w1,0,42,(-2),0])] 1840 [72,64,32,16,0]
theorem k1 (w0 w1:Int):take_TryI.m 100 (P1 w0 w1) (IntKind.i64.wrap ((IntKind.i64.wrap (2 * (atI [0,16] 1)))+1))=some (w1,32,1,A1 w0 w1):=by kernel_rfl
theorem n1 (w0 w1:Int):take_TryI.m 100 (A1 w0 w1) (IntKind.i64.wrap ((IntKind.i64.wrap (2 * (atI [0,16] 0)))+1))=some (0,-1,0,B1 w0 w1):=by kernel_rfl
theorem g1 (w0 w1:Int):view_Gor.m 100 (B1 w0 w1) 32=some (⟨0,0,21,0,0,0,0,0,0,-1⟩,0,B1 w0 w1):=by kernel_rfl
end to
end Go.Proofs.YtgejcjcpchofiaaGreat
/-
  The walk of 'dormouselaw16.TakeOnce': the call returns true, in a world with at most new blocks.
-/
namespace Go.Proofs.YtgejcjcpchofiaaGreat.takeOnce
open Go.RowKit
set_option linter.unusedVariables false

open to
theorem awake_is : law16_awake.m 100 = some true := by decide +kernel
theorem gor_is (s u : HSt) : law16_gor.m 100 s u [0, 16] [32] 0 = some (32, s, u) := by kernel_rfl
theorem in0 : inR (0 : Int) ([0, 16] : List Int).length = true := rfl
theorem in1 : inR (1 : Int) ([0, 16] : List Int).length = true := rfl
theorem gen {k : Nat} {i0 : Int} {i1 : Bool} {s7 s8 S U A B A2 B2 : HSt} (h1 : law16_made.m k [0, 0] 0 = some (s7, s8, [0, 16], [32])) (h2 : law16_awake.m k = some true) (h3 : ∀ s u, law16_gor.m k s u [0, 16] [32] 0 = some (32, s, u))
    (h4 : law16_wait.m k s7 s8 [0, 16] [32] 32 [atI [0, 16] (0 : Int), atI [0, 16] (1 : Int)] [true, true] (Int.tmod i0 1099511627776) 20 = some (true, S, U))
    (a1 : take_Try.m k S (IntKind.i64.wrap ((IntKind.i64.wrap (2 * (atI [0, 16] 0))) + 1)) = some (IntKind.i64.wrap (Int.tmod i0 1099511627776 + (IntKind.i64.wrap (2 * 0))), 32, 1, A)) (b1 : take_Try.m k S (IntKind.i64.wrap ((IntKind.i64.wrap (2 * (atI [0, 16] 1))) + 1)) = some (IntKind.i64.wrap (Int.tmod i0 1099511627776 + (IntKind.i64.wrap (2 * 1))), 32, 1, B))
    (a2 : take_Try.m k A (IntKind.i64.wrap ((IntKind.i64.wrap (2 * (atI [0, 16] 1))) + 1)) = some (0, -1, 0, A2)) (b2 : take_Try.m k B (IntKind.i64.wrap ((IntKind.i64.wrap (2 * (atI [0, 16] 0))) + 1)) = some (0, -1, 0, B2))
    (a3 : view_Gor.m k A2 32 = some (⟨0, 0, 20, 0, 0, 0, 0, 0, 0, -1⟩, 0, A2)) (b3 : view_Gor.m k B2 32 = some (⟨0, 0, 21, 0, 0, 0, 0, 0, 0, -1⟩, 0, B2)) : TakeOnce.m k i0 i1 = some true := by
  unfold TakeOnce.m
  simp only [h1, bind4_some, h2, bind1_some, Bool.not_true, Bool.false_eq_true, if_false, in0, in1, if_true, h3, bind3_some, h4]
  unfold TakeOnce.j1
  cases i1
  · simp only [Bool.false_eq_true, if_false]
    unfold TakeOnce.j2
    simp only [in0, in1, if_true, a1, bind3_some, bind4_some, a2, h3, a3]
    unfold TakeOnce.j3
    simp only [h3, bind3_some]
    simp [TakeOnce.j4]
    try decide
  · simp only [Bool.false_eq_true, if_false, if_true]
    unfold TakeOnce.j2
    simp only [in0, in1, if_true, b1, bind3_some, bind4_some, b2, h3, b3]
    unfold TakeOnce.j3
    simp only [h3, bind3_some]
    simp [TakeOnce.j4]
    try decide
theorem pure (i0 : Int) (i1 : Bool) : TakeOnce.m 100 i0 i1 = some true := by
  obtain ⟨j0, v0⟩ := (law16_made.m_ok (k := 100)).2 _ m0
  have b := law16_wait.m_ok (k := 100) (Lc0 := [0, 16]) (Lg0 := [32]) (i1 := 32) (L2 := [atI [0, 16] (0 : Int), atI [0, 16] (1 : Int)]) (L3 := [true, true]) (i4 := Int.tmod i0 1099511627776) (i5 := 20) j0 v0
  have f := b.1.symm.trans (w0 (Int.tmod i0 1099511627776))
  obtain ⟨j1, v1⟩ := b.2 _ f
  have p0 := take_Try.m_ok (k := 100) (i1 := IntKind.i64.wrap ((IntKind.i64.wrap (2 * (atI [0, 16] 0))) + 1)) j1
  have e0 := p0.1.symm.trans (k0 _ _)
  have q0 := (take_Try.m_ok (k := 100) (i1 := IntKind.i64.wrap ((IntKind.i64.wrap (2 * (atI [0, 16] 1))) + 1)) (p0.2 _ e0)).1.symm.trans (n0 _ _)
  have p1 := take_Try.m_ok (k := 100) (i1 := IntKind.i64.wrap ((IntKind.i64.wrap (2 * (atI [0, 16] 1))) + 1)) j1
  have e1 := p1.1.symm.trans (k1 _ _)
  have q1 := (take_Try.m_ok (k := 100) (i1 := IntKind.i64.wrap ((IntKind.i64.wrap (2 * (atI [0, 16] 0))) + 1)) (p1.2 _ e1)).1.symm.trans (n1 _ _)
  exact gen m0 awake_is gor_is f e0 e1 q0 q1 (g0 _ _) (g1 _ _)
theorem walk (a0 : Int) (a1 : Bool) (w0 : (Lit.int .i64 a0).wf = true) (w : World) :
    Calls Tryz.prog 13 #[.int .i64 a0, .bool a1] w fun e w' => e = .returned (.bool true) ∧ Below w.heap.size w w' := by
  exact (TakeOnce.ok (St.empty w) (pure _ _)).mono fun e w' ⟨he, h⟩ => ⟨he, h.old⟩

end Go.Proofs.YtgejcjcpchofiaaGreat.takeOnce
/-
  'TakeOnceSaid' ('dormouselaw16.TakeOnce'): for every input the law returns true, and each argument reads behind the call as it did before.
  Conditions: none beyond the given row's own.
-/
namespace Go.Proofs.YtgejcjcpchofiaaGreat.takeOnce
open Go.ChangeShapes Go.WideShapes Go.ChangeAt Go.RowKit
set_option linter.unusedVariables false      -- a walk need not use every 'w<i>' (that an integer argument fits its kind)

theorem own : ownKnob Tryz.prog.godebug = none := by kernel_rfl

/-! ### THE ROW's STEP: WRITTEN OUT: LEAVE IT -/
set_option maxRecDepth 100000 in
theorem lifted (os : Os) (started : os.Started) (H : Type) (enc : TypeId × Value → H) :
    ReturnsInHanded {} Tryz.checked os 13 .any (Rows.takeOnceSpec.pre6 enc Tryz.prog Tryz.f13 Rows.takeOnceRow.domain false) (Rows.takeOnceSpec.post enc Tryz.prog Tryz.f13 false true false false) := by
  refine returnsInHanded_of_change (C := Tryz.checked) own started (by kernel_rfl) Tryz.func13
    (ChangeSpec.witness6 (enc := enc) (C := Tryz.checked) false ⟨#[], #[.int .i64 0, .bool false], []⟩ 8 (by kernel_rfl) (by kernel_rfl) (by kernel_rfl) (by kernel_rfl)) ?_
  intro W base args ds gs before hval0 hW hcnd _
  have hval : ∀ (j : Nat) t v, Tryz.f13.params[j]? = some t → args[j]? = some v → Value.okWide Tryz.prog W .any base t v := hval0
  have hW' := hW
  obtain ⟨p, q, hA0, hV, rfl, hfz, hnd⟩ := hW
  have hA : DataW.TrodAll enc Tryz.prog W 0 (fun _ => true) true Tryz.f13.params.toList args.toList ds p := hA0
  rw [Tryz.params13] at hA hval
  obtain ⟨v0, vs0, d0, ds0, p0, q0, hargs, rfl, rfl, h0, r0⟩ := trodAll_cons hA
  obtain ⟨v1, vs1, d1, ds1, p1, q1, rfl, rfl, rfl, h1, r1⟩ := trodAll_cons r0
  obtain ⟨rfl, rfl, rfl⟩ := trodAll_nil r1
  obtain rfl : args = #[v0, v1] := by cases args; simp_all
  obtain ⟨rfl, rfl⟩ := trodVars_none hV
  obtain ⟨a0, rfl, rfl, rfl, w0⟩ := open_int Tryz.underlying3 (hval 0 3 v0 rfl rfl) h0
  obtain ⟨a1, rfl, rfl, rfl⟩ := open_bool Tryz.underlying4 (hval 1 4 v1 rfl rfl) h1
  clear hA0 hval0
  simp only [List.append_nil] at hW'
  refine (walk a0 a1 w0 W).mono fun e W' ⟨he, hg⟩ => ?_
  subst he
  exact ⟨_, rfl, _, _, _, [], [], [], hW', (trodAll_cons_mk (shut_bool Tryz.underlying4 _) trodAll_mk0), (trodAll_cons_mk (shut_int Tryz.underlying3 w0) (trodAll_cons_mk (shut_bool Tryz.underlying4 _) trodAll_mk0)), rfl, hg.frame _, fun h => by cases h⟩

theorem over : Rows.takeOnceRow.holds Tryz.pinned (OpenSpec.ofChange Rows.takeOnceSpec) :=
  OpenClaim.holds_of_wide 13 Tryz.f13 rfl rfl rfl rfl rfl rfl rfl ⟨rfl, rfl, rfl, rfl, rfl⟩ rfl rfl rfl rfl rfl (by kernel_rfl) Tryz.func13 (by kernel_rfl)
    (of_decide_eq_true (by kernel_rfl)) (by unfold Func.isWrapper; first | (rw [if_pos (by decide +kernel)]; kernel_rfl) | (rw [if_neg (by decide +kernel)]; exact ⟨rfl, rfl⟩))
    (fun os started H enc _ => lifted os started H enc)

/-- ████ THE STATEMENT ████ -/
theorem proved : Rows.TakeOnceSaid :=
  over
#print axioms proved
end Go.Proofs.YtgejcjcpchofiaaGreat.takeOnce
