/- WakeNowhereW WakeNowhere -/
import Derived.Test.YtaojmbkmicjecaaGreatKWn2w
import Derived.Test.YtaojmbkmicjecaaGreatKWn2a
import Derived.Test.YtaojmbkmicjecaaGreatKWn3w
import Derived.Test.YtaojmbkmicjecaaGreatKWn3a
import Derived.Test.YtaojmbkmicjecaaGreatKWn4w
import Derived.Test.YtaojmbkmicjecaaGreatKWn4a
import Derived.Test.YtaojmbkmicjecaaGreatKWn5x
import Derived.Test.YtaojmbkmicjecaaGreatKWn5w
import Derived.Test.YtaojmbkmicjecaaGreatKWn5a
import Derived.Test.YtaojmbkmicjecaaGreatKWn5b
import Derived.Test.YtaojmbkmicjecaaGreatKWn6x
import Derived.Test.YtaojmbkmicjecaaGreatKWn6y0
import Derived.Test.YtaojmbkmicjecaaGreatKWn6y1
import Derived.Test.YtaojmbkmicjecaaGreatKWn6y2
import Derived.Test.YtaojmbkmicjecaaGreatKWn6y3
import Derived.Test.YtaojmbkmicjecaaGreatKWn6w
import Derived.Test.YtaojmbkmicjecaaGreatKWn6a
import Derived.Test.YtaojmbkmicjecaaGreatKWn6b
import Derived.Test.YtaojmbkmicjecaaGreatKWn6c
import Derived.Test.YtaojmbkmicjecaaGreatKWn6d
import Derived.Test.YtaojmbkmicjecaaGreatKWn6e
import Derived.Test.YtaojmbkmicjecaaGreatKWn6f
import Derived.Test.YtaojmbkmicjecaaGreatKWn6g
import Derived.Test.YtaojmbkmicjecaaGreatKWn6h
import Derived.Test.YtaojmbkmicjecaaGreatKView2N
import Derived.Test.YtaojmbkmicjecaaGreatKPlain
import Derived.Test.YtaojmbkmicjecaaGreatRows
import Derived.WalkKit
import Derived.WalkSpells
import Derived.WalkLawsBesides
import Derived.ProofKit
import Derived.OpenShut
import Derived.ShutString
import Derived.ChangeOld
import Derived.Below
/-
  The walk of 'dormouselaw14.WakeNowhere': the call returns true, in a world with at most new blocks.
-/
namespace Go.Proofs.YtaojmbkmicjecaaGreat.wakeNowhere
open Go.RowKit
set_option linter.unusedVariables false

open wn
theorem awake_is : law14_awake.m 100 = some true := by decide +kernel
theorem tail2 : ∀ b : List Bool, b.length = 2 → ∀ k, k < 2 → tailW 2 b k
  | [true, true], _ => f2_tt
  | [true, false], _ => f2_tf
  | [false, true], _ => f2_ft
  | [false, false], _ => f2_ff
  | [], h => by simp at h
  | [_], h => by simp at h
  | _ :: _ :: _ :: _, h => by simp at h
theorem tail3 : ∀ b : List Bool, b.length = 3 → ∀ k, k < 3 → tailW 3 b k
  | [true, true, true], _ => f3_ttt
  | [true, true, false], _ => f3_ttf
  | [true, false, true], _ => f3_tft
  | [true, false, false], _ => f3_tff
  | [false, true, true], _ => f3_ftt
  | [false, true, false], _ => f3_ftf
  | [false, false, true], _ => f3_fft
  | [false, false, false], _ => f3_fff
  | [], h => by simp at h
  | [_], h => by simp at h
  | [_, _], h => by simp at h
  | _ :: _ :: _ :: _ :: _, h => by simp at h
theorem tail4 : ∀ b : List Bool, b.length = 4 → ∀ k, k < 4 → tailW 4 b k
  | [true, true, true, true], _ => f4_tttt
  | [true, true, true, false], _ => f4_tttf
  | [true, true, false, true], _ => f4_ttft
  | [true, true, false, false], _ => f4_ttff
  | [true, false, true, true], _ => f4_tftt
  | [true, false, true, false], _ => f4_tftf
  | [true, false, false, true], _ => f4_tfft
  | [true, false, false, false], _ => f4_tfff
  | [false, true, true, true], _ => f4_fttt
  | [false, true, true, false], _ => f4_fttf
  | [false, true, false, true], _ => f4_ftft
  | [false, true, false, false], _ => f4_ftff
  | [false, false, true, true], _ => f4_fftt
  | [false, false, true, false], _ => f4_fftf
  | [false, false, false, true], _ => f4_ffft
  | [false, false, false, false], _ => f4_ffff
  | [], h => by simp at h
  | [_], h => by simp at h
  | [_, _], h => by simp at h
  | [_, _, _], h => by simp at h
  | _ :: _ :: _ :: _ :: _ :: _, h => by simp at h
theorem tail5 : ∀ b : List Bool, b.length = 5 → ∀ k, k < 5 → tailW 5 b k
  | [true, true, true, true, true], _ => f5_ttttt
  | [true, true, true, true, false], _ => f5_ttttf
  | [true, true, true, false, true], _ => f5_tttft
  | [true, true, true, false, false], _ => f5_tttff
  | [true, true, false, true, true], _ => f5_ttftt
  | [true, true, false, true, false], _ => f5_ttftf
  | [true, true, false, false, true], _ => f5_ttfft
  | [true, true, false, false, false], _ => f5_ttfff
  | [true, false, true, true, true], _ => f5_tfttt
  | [true, false, true, true, false], _ => f5_tfttf
  | [true, false, true, false, true], _ => f5_tftft
  | [true, false, true, false, false], _ => f5_tftff
  | [true, false, false, true, true], _ => f5_tfftt
  | [true, false, false, true, false], _ => f5_tfftf
  | [true, false, false, false, true], _ => f5_tffft
  | [true, false, false, false, false], _ => f5_tffff
  | [false, true, true, true, true], _ => f5_ftttt
  | [false, true, true, true, false], _ => f5_ftttf
  | [false, true, true, false, true], _ => f5_fttft
  | [false, true, true, false, false], _ => f5_fttff
  | [false, true, false, true, true], _ => f5_ftftt
  | [false, true, false, true, false], _ => f5_ftftf
  | [false, true, false, false, true], _ => f5_ftfft
  | [false, true, false, false, false], _ => f5_ftfff
  | [false, false, true, true, true], _ => f5_ffttt
  | [false, false, true, true, false], _ => f5_ffttf
  | [false, false, true, false, true], _ => f5_fftft
  | [false, false, true, false, false], _ => f5_fftff
  | [false, false, false, true, true], _ => f5_ffftt
  | [false, false, false, true, false], _ => f5_ffftf
  | [false, false, false, false, true], _ => f5_fffft
  | [false, false, false, false, false], _ => f5_fffff
  | [], h => by simp at h
  | [_], h => by simp at h
  | [_, _], h => by simp at h
  | [_, _, _], h => by simp at h
  | [_, _, _, _], h => by simp at h
  | _ :: _ :: _ :: _ :: _ :: _ :: _, h => by simp at h
theorem tail6 : ∀ b : List Bool, b.length = 6 → ∀ k, k < 6 → tailW 6 b k
  | [true, true, true, true, true, true], _ => f6_tttttt
  | [true, true, true, true, true, false], _ => f6_tttttf
  | [true, true, true, true, false, true], _ => f6_ttttft
  | [true, true, true, true, false, false], _ => f6_ttttff
  | [true, true, true, false, true, true], _ => f6_tttftt
  | [true, true, true, false, true, false], _ => f6_tttftf
  | [true, true, true, false, false, true], _ => f6_tttfft
  | [true, true, true, false, false, false], _ => f6_tttfff
  | [true, true, false, true, true, true], _ => f6_ttfttt
  | [true, true, false, true, true, false], _ => f6_ttfttf
  | [true, true, false, true, false, true], _ => f6_ttftft
  | [true, true, false, true, false, false], _ => f6_ttftff
  | [true, true, false, false, true, true], _ => f6_ttfftt
  | [true, true, false, false, true, false], _ => f6_ttfftf
  | [true, true, false, false, false, true], _ => f6_ttffft
  | [true, true, false, false, false, false], _ => f6_ttffff
  | [true, false, true, true, true, true], _ => f6_tftttt
  | [true, false, true, true, true, false], _ => f6_tftttf
  | [true, false, true, true, false, true], _ => f6_tfttft
  | [true, false, true, true, false, false], _ => f6_tfttff
  | [true, false, true, false, true, true], _ => f6_tftftt
  | [true, false, true, false, true, false], _ => f6_tftftf
  | [true, false, true, false, false, true], _ => f6_tftfft
  | [true, false, true, false, false, false], _ => f6_tftfff
  | [true, false, false, true, true, true], _ => f6_tffttt
  | [true, false, false, true, true, false], _ => f6_tffttf
  | [true, false, false, true, false, true], _ => f6_tfftft
  | [true, false, false, true, false, false], _ => f6_tfftff
  | [true, false, false, false, true, true], _ => f6_tffftt
  | [true, false, false, false, true, false], _ => f6_tffftf
  | [true, false, false, false, false, true], _ => f6_tfffft
  | [true, false, false, false, false, false], _ => f6_tfffff
  | [false, true, true, true, true, true], _ => f6_fttttt
  | [false, true, true, true, true, false], _ => f6_fttttf
  | [false, true, true, true, false, true], _ => f6_ftttft
  | [false, true, true, true, false, false], _ => f6_ftttff
  | [false, true, true, false, true, true], _ => f6_fttftt
  | [false, true, true, false, true, false], _ => f6_fttftf
  | [false, true, true, false, false, true], _ => f6_fttfft
  | [false, true, true, false, false, false], _ => f6_fttfff
  | [false, true, false, true, true, true], _ => f6_ftfttt
  | [false, true, false, true, true, false], _ => f6_ftfttf
  | [false, true, false, true, false, true], _ => f6_ftftft
  | [false, true, false, true, false, false], _ => f6_ftftff
  | [false, true, false, false, true, true], _ => f6_ftfftt
  | [false, true, false, false, true, false], _ => f6_ftfftf
  | [false, true, false, false, false, true], _ => f6_ftffft
  | [false, true, false, false, false, false], _ => f6_ftffff
  | [false, false, true, true, true, true], _ => f6_fftttt
  | [false, false, true, true, true, false], _ => f6_fftttf
  | [false, false, true, true, false, true], _ => f6_ffttft
  | [false, false, true, true, false, false], _ => f6_ffttff
  | [false, false, true, false, true, true], _ => f6_fftftt
  | [false, false, true, false, true, false], _ => f6_fftftf
  | [false, false, true, false, false, true], _ => f6_fftfft
  | [false, false, true, false, false, false], _ => f6_fftfff
  | [false, false, false, true, true, true], _ => f6_fffttt
  | [false, false, false, true, true, false], _ => f6_fffttf
  | [false, false, false, true, false, true], _ => f6_ffftft
  | [false, false, false, true, false, false], _ => f6_ffftff
  | [false, false, false, false, true, true], _ => f6_fffftt
  | [false, false, false, false, true, false], _ => f6_fffftf
  | [false, false, false, false, false, true], _ => f6_ffffft
  | [false, false, false, false, false, false], _ => f6_ffffff
  | [], h => by simp at h
  | [_], h => by simp at h
  | [_, _], h => by simp at h
  | [_, _, _], h => by simp at h
  | [_, _, _, _], h => by simp at h
  | [_, _, _, _, _], h => by simp at h
  | _ :: _ :: _ :: _ :: _ :: _ :: _ :: _, h => by simp at h
theorem w6_5 : ∀ b : List Bool, b.length = 6 → waitW 6 5 b
  | true :: true :: b, h => w6_5_0 b (by simpa using h)
  | true :: false :: b, h => w6_5_1 b (by simpa using h)
  | false :: true :: b, h => w6_5_2 b (by simpa using h)
  | false :: false :: b, h => w6_5_3 b (by simpa using h)
  | [], h => by simp at h
  | [_], h => by simp at h
theorem wait2 : ∀ v, v < 2 → ∀ b : List Bool, b.length = v + 1 → waitW 2 v b
  | 0, _ => w2_0
  | 1, _ => w2_1
  | _ + 2, h => by omega
theorem wait3 : ∀ v, v < 3 → ∀ b : List Bool, b.length = v + 1 → waitW 3 v b
  | 0, _ => w3_0
  | 1, _ => w3_1
  | 2, _ => w3_2
  | _ + 3, h => by omega
theorem wait4 : ∀ v, v < 4 → ∀ b : List Bool, b.length = v + 1 → waitW 4 v b
  | 0, _ => w4_0
  | 1, _ => w4_1
  | 2, _ => w4_2
  | 3, _ => w4_3
  | _ + 4, h => by omega
theorem wait5 : ∀ v, v < 5 → ∀ b : List Bool, b.length = v + 1 → waitW 5 v b
  | 0, _ => w5_0
  | 1, _ => w5_1
  | 2, _ => w5_2
  | 3, _ => w5_3
  | 4, _ => w5_4
  | _ + 5, h => by omega
theorem wait6 : ∀ v, v < 6 → ∀ b : List Bool, b.length = v + 1 → waitW 6 v b
  | 0, _ => w6_0
  | 1, _ => w6_1
  | 2, _ => w6_2
  | 3, _ => w6_3
  | 4, _ => w6_4
  | 5, _ => w6_5
  | _ + 6, h => by omega
theorem pure (i0 : Int) (K1 : List Bool) (i2 : Int) : WakeNowhere.m 100 i0 K1 i2 = some true := by
  obtain ⟨c, hc, ec⟩ := u_mod i0 5 (by omega)
  simp only [Int.cast_ofNat_Int] at ec
  have h0 : IntKind.i64.wrap (1 + (IntKind.i64.wrap (Int.tmod (IntKind.u64.wrap i0) 5))) = ((c + 2 - 1 : Nat) : Int) := by rw [ec, IntKind.wrap_i64, IntKind.wrap_i64]; omega
  obtain ⟨k, hk, ek⟩ := u_mod i2 (c + 2) (by omega)
  have hu : IntKind.u64.wrap ((c + 2 : Nat) : Int) = ((c + 2 : Nat) : Int) := by
    have : IntKind.u64.wrap ((c + 2 : Nat) : Int) = ((c + 2 : Nat) : Int) % 18446744073709551616 := rfl
    rw [this]; omega
  have hi : IntKind.i64.wrap (Int.tmod (IntKind.u64.wrap i2) (IntKind.u64.wrap ((c + 2 : Nat) : Int))) = (k : Int) := by rw [hu, ek, IntKind.wrap_i64]; omega
  have h5 : c = 0 ∨ c = 1 ∨ c = 2 ∨ c = 3 ∨ c = 4 := by omega
  rcases h5 with rfl | rfl | rfl | rfl | rfl
  · exact fin (m := 2) (by omega) (by omega) h0 awake_is made2 hk hi wait2 tail2
  · exact fin (m := 3) (by omega) (by omega) h0 awake_is made3 hk hi wait3 tail3
  · exact fin (m := 4) (by omega) (by omega) h0 awake_is made4 hk hi wait4 tail4
  · exact fin (m := 5) (by omega) (by omega) h0 awake_is made5 hk hi wait5 tail5
  · exact fin (m := 6) (by omega) (by omega) h0 awake_is made6 hk hi wait6 tail6
theorem walk (a0 : Int) (a1 : Option Addr) (len1 cap1 : Nat) (z1 : List Bool) (a2 : Int) (w : World) (w0 : (Lit.int .i64 a0).wf = true) (w1 : ArgBools w (.slice a1 len1 cap1) z1) (w2 : (Lit.int .i64 a2).wf = true) :
    Calls Tryz.prog 9 #[.int .i64 a0, .slice a1 len1 cap1, .int .i64 a2] w fun e w' => e = .returned (.bool true) ∧ Below w.heap.size w w' := by
  obtain ⟨_, p', c', e, _⟩ := id w1
  injection e with e1 e2 e3
  subst e2
  exact (WakeNowhere.ok w1 (St.empty w) (pure _ _ _)).mono fun e w' ⟨he, h⟩ => ⟨he, h.old⟩

end Go.Proofs.YtaojmbkmicjecaaGreat.wakeNowhere
/-
  'WakeNowhereSaid' ('dormouselaw14.WakeNowhere'): for every input the law returns true, and each argument reads behind the call as it did before.
  Conditions: none beyond the given row's own.
-/
namespace Go.Proofs.YtaojmbkmicjecaaGreat.wakeNowhere
open Go.ChangeShapes Go.WideShapes Go.ChangeAt Go.RowKit
set_option linter.unusedVariables false

theorem own : ownKnob Tryz.prog.godebug = none := by kernel_rfl
theorem laidOut : laidOutB Tryz.prog = true := by kernel_rfl

/-! ### THE ROW -/
set_option maxRecDepth 100000 in
theorem lifted (os : Os) (started : os.Started) (H : Type) (enc : TypeId × Value → H) :
    ReturnsInHanded {} Tryz.checked os 9 .any (Rows.wakeNowhereSpec.pre6 enc Tryz.prog Tryz.f9 Rows.wakeNowhereRow.domain false) (Rows.wakeNowhereSpec.post enc Tryz.prog Tryz.f9 false true false false) := by
  refine returnsInHanded_of_change (C := Tryz.checked) own started (by kernel_rfl) Tryz.func9
    (ChangeSpec.witness6 (enc := enc) (C := Tryz.checked) false ⟨#[], #[.int .i64 0, .slice none 0 0, .int .i64 0], []⟩ 8 (by kernel_rfl) (by kernel_rfl) (by kernel_rfl) (by kernel_rfl)) ?_
  intro W base args ds gs before hval0 hW hcnd _
  have hval : ∀ (j : Nat) t v, Tryz.f9.params[j]? = some t → args[j]? = some v → Value.okWide Tryz.prog W .any base t v := hval0
  have hW' := hW
  obtain ⟨p, q, hA0, hV, rfl, hfz, hnd⟩ := hW
  have hA : DataW.TrodAll enc Tryz.prog W 0 (fun _ => true) true Tryz.f9.params.toList args.toList ds p := hA0
  rw [Tryz.params9] at hA hval
  obtain ⟨v0, vs0, d0, ds0, p0, q0, hargs, rfl, rfl, h0, r0⟩ := trodAll_cons hA
  obtain ⟨v1, vs1, d1, ds1, p1, q1, rfl, rfl, rfl, h1, r1⟩ := trodAll_cons r0
  obtain ⟨v2, vs2, d2, ds2, p2, q2, rfl, rfl, rfl, h2, r2⟩ := trodAll_cons r1
  obtain ⟨rfl, rfl, rfl⟩ := trodAll_nil r2
  obtain rfl : args = #[v0, v1, v2] := by cases args; simp_all
  obtain ⟨rfl, rfl⟩ := trodVars_none hV
  obtain ⟨a0, rfl, rfl, rfl, w0⟩ := open_int Tryz.underlying3 (hval 0 3 v0 rfl rfl) h0
  obtain ⟨a1, len1, cap1, rfl⟩ := okWide_slice Tryz.underlying62 (hval 1 62 v1 rfl rfl)
  have k1 := h1
  have lt1 : ∀ x ∈ p1, x.block < W.heap.size := by obtain ⟨m, hm⟩ := k1; exact DataW.trod_lt m _ _ _ hm
  obtain ⟨z1, w1⟩ : ∃ z, ArgBools W (.slice a1 len1 cap1) z := by
    obtain ⟨fuel, hf⟩ := h1
    exact bools_open Tryz.underlying62 Tryz.underlying4 (by kernel_rfl) hf
  obtain ⟨a2, rfl, rfl, rfl, w2⟩ := open_int Tryz.underlying3 (hval 2 3 v2 rfl rfl) h2
  clear hA0 hval0
  refine (walk a0 a1 len1 cap1 z1 a2 W w0 w1 w2).mono fun e W' ⟨he, bel⟩ => ?_
  subst he
  exact ⟨_, rfl, _, _, _, [], _, [], hW', trodAll_mk1 (shut_bool Tryz.underlying4 _), (trodAll_cons_mk (shut_int Tryz.underlying3 w0) (trodAll_cons_mk (Below.trod laidOut (by kernel_rfl) (of_decide_eq_true (by kernel_rfl)) k1 bel lt1) (trodAll_cons_mk (shut_int Tryz.underlying3 w2) trodAll_mk0))), rfl, bel.frame _, fun h => by cases h⟩

theorem over : Rows.wakeNowhereRow.holds Tryz.pinned (OpenSpec.ofChange Rows.wakeNowhereSpec) :=
  OpenClaim.holds_of_wide 9 Tryz.f9 rfl rfl rfl rfl rfl rfl rfl ⟨rfl, rfl, rfl, rfl, rfl⟩ rfl rfl rfl rfl rfl (by kernel_rfl) Tryz.func9 (by kernel_rfl)
    (of_decide_eq_true (by kernel_rfl)) (by unfold Func.isWrapper; first | (rw [if_pos (by decide +kernel)]; kernel_rfl) | (rw [if_neg (by decide +kernel)]; exact ⟨rfl, rfl⟩))
    (fun os started H enc _ => lifted os started H enc)

/-- THE STATEMENT -/
theorem proved : Rows.WakeNowhereSaid := over
#print axioms proved
end Go.Proofs.YtaojmbkmicjecaaGreat.wakeNowhere
