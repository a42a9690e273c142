/- Class ClassRef -/
import Derived.Test.YtffnjpapggidlaaKPlain
import Derived.Test.YtffnjpapggidlaaKPure5
import Derived.Test.YtffnjpapggidlaaRows
import Derived.WalkKit
import Derived.WalkSpells
import Derived.WalkLawsBesides
namespace Go.Proofs.Ytffnjpapggidlaa
open Go.RowKit
theorem next_c0 (w:World) (ty:TypeId):(Instr.next (.pointer (some ⟨w.heap.size,0,none⟩)) true ty).run Try.prog (w.iter cText 0)=.ok (.tuple #[.bool true,.int .i64 0,.int .i32 4]) (w.iter cText 1):=run_next_ascii w cText 0 ty (by decide) (by decide)
theorem next_c1 (w:World) (ty:TypeId):(Instr.next (.pointer (some ⟨w.heap.size,0,none⟩)) true ty).run Try.prog (w.iter cText 1)=.ok (.tuple #[.bool true,.int .i64 1,.int .i32 8]) (w.iter cText 2):=run_next_ascii w cText 1 ty (by decide) (by decide)
theorem next_c2 (w:World) (ty:TypeId):(Instr.next (.pointer (some ⟨w.heap.size,0,none⟩)) true ty).run Try.prog (w.iter cText 2)=.ok (.tuple #[.bool true,.int .i64 2,.int .i32 16]) (w.iter cText 3):=run_next_ascii w cText 2 ty (by decide) (by decide)
theorem next_c3 (w:World) (ty:TypeId):(Instr.next (.pointer (some ⟨w.heap.size,0,none⟩)) true ty).run Try.prog (w.iter cText 3)=.ok (.tuple #[.bool true,.int .i64 3,.int .i32 32]) (w.iter cText 4):=run_next_ascii w cText 3 ty (by decide) (by decide)
theorem next_c4 (w:World) (ty:TypeId):(Instr.next (.pointer (some ⟨w.heap.size,0,none⟩)) true ty).run Try.prog (w.iter cText 4)=.ok (.tuple #[.bool false]) (w.iter cText 4):=run_next_end w cText 4 ty (by decide)
theorem range_c (w:World):(Instr.range 9 (.string { data:=#[4,8,16,32] })).run Try.prog w=.ok (.pointer (some ⟨w.heap.size,0,none⟩)) (w.iter cText 0):=run_range_string w _ cText Try.underlying9
theorem iter_below (w:World) (s:ByteArray) (p:Nat):Below w.heap.size w (w.iter s p):=(Below.refl _ _).alloc (Nat.le_refl _) _
set_option maxHeartbeats 1000000 in
theorem class_Words (a:Int) (w:World) :
    Calls Try.prog 57 #[.int .i64 a] w fun e w'=>e=.returned (.int .i64 (cWords a))∧Below w.heap.size w w':=by
  have hr:=range_c w
  have h0:=next_c0 w
  have h1:=next_c1 w
  have h2:=next_c2 w
  have h3:=next_c3 w
  have h4:=next_c4 w
  go_enter Try.func57,Try.ntmps57
  go_wp2
  go_loopw [] (fun w'=>∃ pos:Nat,pos≤4∧w'=w.iter cText pos∧(0≤a∧a<4→pos≤a)) (fun w'=>4 - w'.iterPos w.heap.size)
  case atStart=>exact ⟨0,by omega,rfl,fun h=>h.1⟩
  case round =>
    obtain ⟨pos,hp,rfl,hq⟩:=hrel
    obtain rfl | rfl | rfl | rfl | rfl:pos=0 ∨ pos=1 ∨ pos=2 ∨ pos=3 ∨ pos=4:=by omega
    · by_cases ha:a=0
      · subst ha
        clear hq
        go_wp2
        go_ret
        exact ⟨rfl,iter_below _ _ _⟩
      · have hb:((0:Int) == a)=false:=by rw [beq_eq_false_iff_ne]; omega
        go_wp2
        go_roundw
        case rel=>exact ⟨1,by omega,rfl,by omega⟩
        case measure=>simp
    · by_cases ha:a=1
      · subst ha
        clear hq
        go_wp2
        go_ret
        exact ⟨rfl,iter_below _ _ _⟩
      · have hb:((1:Int) == a)=false:=by rw [beq_eq_false_iff_ne]; omega
        go_wp2
        go_roundw
        case rel=>exact ⟨2,by omega,rfl,by omega⟩
        case measure=>simp
    · by_cases ha:a=2
      · subst ha
        clear hq
        go_wp2
        go_ret
        exact ⟨rfl,iter_below _ _ _⟩
      · have hb:((2:Int) == a)=false:=by rw [beq_eq_false_iff_ne]; omega
        go_wp2
        go_roundw
        case rel=>exact ⟨3,by omega,rfl,by omega⟩
        case measure=>simp
    · by_cases ha:a=3
      · subst ha
        clear hq
        go_wp2
        go_ret
        exact ⟨rfl,iter_below _ _ _⟩
      · have hb:((3:Int) == a)=false:=by rw [beq_eq_false_iff_ne]; omega
        go_wp2
        go_roundw
        case rel=>exact ⟨4,by omega,rfl,by omega⟩
        case measure=>simp
    · go_wp2
      go_ret
      exact ⟨ret_i (cWords_none (by omega)).symm,iter_below _ _ _⟩
set_option maxHeartbeats 1000000 in
theorem class_Of (a:Int) (w:World) :
    Calls Try.prog 63 #[.int .i64 a] w fun e w'=>e=.returned (.tuple #[.int .i64 (cOf a),.bool (cFits a)])∧Below w.heap.size w w':=by
  have hr:=range_c w
  have h0:=next_c0 w
  have h1:=next_c1 w
  have h2:=next_c2 w
  have h3:=next_c3 w
  have h4:=next_c4 w
  by_cases hn:0≤a
  · go_enter Try.func63,Try.ntmps63
    go_wp2
    go_loopw [] (fun w'=>∃ pos:Nat,pos≤4∧w'=w.iter cText pos∧(pos=0 ∨ 2 ^ (pos+1)≤a)) (fun w'=>4 - w'.iterPos w.heap.size)
    case atStart=>exact ⟨0,by omega,rfl,.inl rfl⟩
    case round =>
      obtain ⟨pos,hp,rfl,hq⟩:=hrel
      obtain rfl | rfl | rfl | rfl | rfl:pos=0 ∨ pos=1 ∨ pos=2 ∨ pos=3 ∨ pos=4:=by omega
      · by_cases ha:a<4
        · have hl:0≤a:=by omega
          clear hq
          go_wp2
          go_ret2
          have hc:cOf a=0:=by unfold cOf; repeat (first | rw [if_pos (by omega)] | rw [if_neg (by omega)])
          have hf:cFits a=true:=by unfold cFits; simp; omega
          exact ⟨ret_ib hc.symm hf.symm,iter_below _ _ _⟩
        · clear hq
          go_wp2
          go_roundw
          case rel=>exact ⟨1,by omega,rfl,by omega⟩
          case measure=>simp
      · by_cases ha:a<8
        · have hl:4≤a:=by omega
          clear hq
          go_wp2
          go_ret2
          have hc:cOf a=1:=by unfold cOf; repeat (first | rw [if_pos (by omega)] | rw [if_neg (by omega)])
          have hf:cFits a=true:=by unfold cFits; simp; omega
          exact ⟨ret_ib hc.symm hf.symm,iter_below _ _ _⟩
        · clear hq
          go_wp2
          go_roundw
          case rel=>exact ⟨2,by omega,rfl,by omega⟩
          case measure=>simp
      · by_cases ha:a<16
        · have hl:8≤a:=by omega
          clear hq
          go_wp2
          go_ret2
          have hc:cOf a=2:=by unfold cOf; repeat (first | rw [if_pos (by omega)] | rw [if_neg (by omega)])
          have hf:cFits a=true:=by unfold cFits; simp; omega
          exact ⟨ret_ib hc.symm hf.symm,iter_below _ _ _⟩
        · clear hq
          go_wp2
          go_roundw
          case rel=>exact ⟨3,by omega,rfl,by omega⟩
          case measure=>simp
      · by_cases ha:a<32
        · have hl:16≤a:=by omega
          clear hq
          go_wp2
          go_ret2
          have hc:cOf a=3:=by unfold cOf; repeat (first | rw [if_pos (by omega)] | rw [if_neg (by omega)])
          have hf:cFits a=true:=by unfold cFits; simp; omega
          exact ⟨ret_ib hc.symm hf.symm,iter_below _ _ _⟩
        · clear hq
          go_wp2
          go_roundw
          case rel=>exact ⟨4,by omega,rfl,by omega⟩
          case measure=>simp
      · have hl:32≤a:=by omega
        clear hq
        go_wp2
        go_ret2
        have hc:cOf a=0:=by unfold cOf; repeat (first | rw [if_pos (by omega)] | rw [if_neg (by omega)])
        have hf:cFits a=false:=by unfold cFits; simp; omega
        exact ⟨ret_ib hc.symm hf.symm,iter_below _ _ _⟩
  · have hc:cOf a=0:=by unfold cOf; rw [if_pos (by omega)]
    have hf:cFits a=false:=by unfold cFits; simp; omega
    have hd:decide (0≤a)=false:=by simpa using hn
    rw [hc,hf]
    clear hc hf
    go_enter Try.func63,Try.ntmps63
    go_wp2
    go_loopw [] (fun w'=>∃ pos:Nat,pos≤4∧w'=w.iter cText pos) (fun w'=>4 - w'.iterPos w.heap.size)
    case atStart=>exact ⟨0,by omega,rfl⟩
    case round =>
      obtain ⟨pos,hp,rfl⟩:=hrel
      obtain rfl | rfl | rfl | rfl | rfl:pos=0 ∨ pos=1 ∨ pos=2 ∨ pos=3 ∨ pos=4:=by omega
      · go_wp2
        go_roundw
        case rel=>exact ⟨1,by omega,rfl⟩
        case measure=>simp
      · go_wp2
        go_roundw
        case rel=>exact ⟨2,by omega,rfl⟩
        case measure=>simp
      · go_wp2
        go_roundw
        case rel=>exact ⟨3,by omega,rfl⟩
        case measure=>simp
      · go_wp2
        go_roundw
        case rel=>exact ⟨4,by omega,rfl⟩
        case measure=>simp
      · go_wp2
        go_ret2
        exact ⟨rfl,iter_below _ _ _⟩
theorem class_Slots (a:Int) (w:World) :
    Calls Try.prog 52 #[.int .i64 a] w fun e w'=>e=.returned (.int .i64 (cSlots a))∧Below w.heap.size w w':=by
  obtain rfl | rfl | rfl | rfl | h:=class_cases a
  · go_enter Try.func52,Try.ntmps52
    go_wp2_with (go_at_call 57; refine (class_Words _ _).mono ?_; rintro e w' ⟨rfl,hb⟩; rw [show cWords 0=4 from rfl])
    go_ret
    exact ⟨rfl,by assumption⟩
  · go_enter Try.func52,Try.ntmps52
    go_wp2_with (go_at_call 57; refine (class_Words _ _).mono ?_; rintro e w' ⟨rfl,hb⟩; rw [show cWords 1=8 from rfl])
    go_ret
    exact ⟨rfl,by assumption⟩
  · go_enter Try.func52,Try.ntmps52
    go_wp2_with (go_at_call 57; refine (class_Words _ _).mono ?_; rintro e w' ⟨rfl,hb⟩; rw [show cWords 2=16 from rfl])
    go_ret
    exact ⟨rfl,by assumption⟩
  · go_enter Try.func52,Try.ntmps52
    go_wp2_with (go_at_call 57; refine (class_Words _ _).mono ?_; rintro e w' ⟨rfl,hb⟩; rw [show cWords 3=32 from rfl])
    go_ret
    exact ⟨rfl,by assumption⟩
  · have e0:=cWords_none h
    have e1:=cSlots_none h
    rw [e1]
    go_enter Try.func52,Try.ntmps52
    go_wp2_with (go_at_call 57; refine (class_Words _ _).mono ?_; rintro e w' ⟨rfl,hb⟩; rw [e0])
    go_ret
    exact ⟨rfl,by assumption⟩
end Go.Proofs.Ytffnjpapggidlaa
namespace Go.Proofs.Ytffnjpapggidlaa
open Go.RowKit
set_option maxHeartbeats 1000000 in
theorem refc_Words (a:Int) (w:World) :
    Calls Try.prog 13 #[.int .i64 a] w fun e w'=>e=.returned (.int .i64 (cWords a))∧Below w.heap.size w w':=by
  obtain rfl | rfl | rfl | rfl | h:=class_cases a
  · go_enter Try.func13,Try.ntmps13
    go_wp2
    go_ret
    exact ⟨rfl,(Below.refl _ _).alloc (Nat.le_refl _) _⟩
  · go_enter Try.func13,Try.ntmps13
    go_wp2
    go_ret
    exact ⟨rfl,(Below.refl _ _).alloc (Nat.le_refl _) _⟩
  · go_enter Try.func13,Try.ntmps13
    go_wp2
    go_ret
    exact ⟨rfl,(Below.refl _ _).alloc (Nat.le_refl _) _⟩
  · go_enter Try.func13,Try.ntmps13
    go_wp2
    go_ret
    exact ⟨rfl,(Below.refl _ _).alloc (Nat.le_refl _) _⟩
  · have e0:=cWords_none h
    rw [e0]; clear e0
    by_cases h0:a<0
    · go_enter Try.func13,Try.ntmps13
      go_wp2
      go_ret
      exact ⟨rfl,Below.refl _ _⟩
    · have h3:3<a:=by omega
      go_enter Try.func13,Try.ntmps13
      go_wp2
      go_ret
      exact ⟨rfl,Below.refl _ _⟩
theorem refc_Slots (a:Int) (w:World) :
    Calls Try.prog 42 #[.int .i64 a] w fun e w'=>e=.returned (.int .i64 (cSlots a))∧Below w.heap.size w w':=by
  obtain rfl | rfl | rfl | rfl | h:=class_cases a
  · go_enter Try.func42,Try.ntmps42
    go_wp2_with (go_at_call 13; refine (refc_Words _ _).mono ?_; rintro e w' ⟨rfl,hb⟩; rw [show cWords 0=4 from rfl])
    go_ret
    exact ⟨rfl,by assumption⟩
  · go_enter Try.func42,Try.ntmps42
    go_wp2_with (go_at_call 13; refine (refc_Words _ _).mono ?_; rintro e w' ⟨rfl,hb⟩; rw [show cWords 1=8 from rfl])
    go_ret
    exact ⟨rfl,by assumption⟩
  · go_enter Try.func42,Try.ntmps42
    go_wp2_with (go_at_call 13; refine (refc_Words _ _).mono ?_; rintro e w' ⟨rfl,hb⟩; rw [show cWords 2=16 from rfl])
    go_ret
    exact ⟨rfl,by assumption⟩
  · go_enter Try.func42,Try.ntmps42
    go_wp2_with (go_at_call 13; refine (refc_Words _ _).mono ?_; rintro e w' ⟨rfl,hb⟩; rw [show cWords 3=32 from rfl])
    go_ret
    exact ⟨rfl,by assumption⟩
  · have e1:=cSlots_none h
    rw [e1]; clear e1
    by_cases h0:a<0
    · go_enter Try.func42,Try.ntmps42
      go_wp2
      go_ret
      exact ⟨rfl,Below.refl _ _⟩
    · have h3:3<a:=by omega
      go_enter Try.func42,Try.ntmps42
      go_wp2
      go_ret
      exact ⟨rfl,Below.refl _ _⟩
set_option maxHeartbeats 1000000 in
theorem refc_ClassOf (a:Int) (w:World) :
    Calls Try.prog 41 #[.int .i64 a] w fun e w'=>e=.returned (.tuple #[.int .i64 (cOf a),.bool (cFits a)])∧Below w.heap.size w w':=by
  by_cases hn:0≤a
  · go_enter Try.func41,Try.ntmps41
    go_wp2
    go_loopw [4] (fun c w'=>∃ pos:Nat,pos≤4∧c=.int .i64 pos∧Below w.heap.size w w'∧(pos=0 ∨ 2 ^ (pos+1)≤a)) (fun c _=>4 - (intOf c).toNat)
    case atStart=>exact ⟨0,by omega,rfl,Below.refl _ _,.inl rfl⟩
    case round =>
      obtain ⟨pos,hp,rfl,hb,hq⟩:=hrel
      obtain rfl | rfl | rfl | rfl | rfl:pos=0 ∨ pos=1 ∨ pos=2 ∨ pos=3 ∨ pos=4:=by omega
      · by_cases ha:a<4
        · have hl:0≤a:=by omega
          clear hq
          go_wp2_with (go_at_call 13; refine (refc_Words _ _).mono ?_; rintro e w' ⟨rfl,hb'⟩; rw [show cWords 0=4 from rfl])
          go_ret2
          have hc:cOf a=0:=by unfold cOf; repeat (first | rw [if_pos (by omega)] | rw [if_neg (by omega)])
          have hf:cFits a=true:=by unfold cFits; simp; omega
          exact ⟨ret_ib hc.symm hf.symm,hb.trans (by have:=hb.size; exact Below.mono (by assumption) this)⟩
        · clear hq
          go_wp2_with (go_at_call 13; refine (refc_Words _ _).mono ?_; rintro e w' ⟨rfl,hb'⟩; rw [show cWords 0=4 from rfl])
          go_roundw
          case rel=>exact ⟨1,by omega,rfl,hb.trans (by have:=hb.size; exact Below.mono (by assumption) this),by omega⟩
          case measure=>simp [intOf]
      · by_cases ha:a<8
        · have hl:4≤a:=by omega
          clear hq
          go_wp2_with (go_at_call 13; refine (refc_Words _ _).mono ?_; rintro e w' ⟨rfl,hb'⟩; rw [show cWords 1=8 from rfl])
          go_ret2
          have hc:cOf a=1:=by unfold cOf; repeat (first | rw [if_pos (by omega)] | rw [if_neg (by omega)])
          have hf:cFits a=true:=by unfold cFits; simp; omega
          exact ⟨ret_ib hc.symm hf.symm,hb.trans (by have:=hb.size; exact Below.mono (by assumption) this)⟩
        · clear hq
          go_wp2_with (go_at_call 13; refine (refc_Words _ _).mono ?_; rintro e w' ⟨rfl,hb'⟩; rw [show cWords 1=8 from rfl])
          go_roundw
          case rel=>exact ⟨2,by omega,rfl,hb.trans (by have:=hb.size; exact Below.mono (by assumption) this),by omega⟩
          case measure=>simp [intOf]
      · by_cases ha:a<16
        · have hl:8≤a:=by omega
          clear hq
          go_wp2_with (go_at_call 13; refine (refc_Words _ _).mono ?_; rintro e w' ⟨rfl,hb'⟩; rw [show cWords 2=16 from rfl])
          go_ret2
          have hc:cOf a=2:=by unfold cOf; repeat (first | rw [if_pos (by omega)] | rw [if_neg (by omega)])
          have hf:cFits a=true:=by unfold cFits; simp; omega
          exact ⟨ret_ib hc.symm hf.symm,hb.trans (by have:=hb.size; exact Below.mono (by assumption) this)⟩
        · clear hq
          go_wp2_with (go_at_call 13; refine (refc_Words _ _).mono ?_; rintro e w' ⟨rfl,hb'⟩; rw [show cWords 2=16 from rfl])
          go_roundw
          case rel=>exact ⟨3,by omega,rfl,hb.trans (by have:=hb.size; exact Below.mono (by assumption) this),by omega⟩
          case measure=>simp [intOf]
      · by_cases ha:a<32
        · have hl:16≤a:=by omega
          clear hq
          go_wp2_with (go_at_call 13; refine (refc_Words _ _).mono ?_; rintro e w' ⟨rfl,hb'⟩; rw [show cWords 3=32 from rfl])
          go_ret2
          have hc:cOf a=3:=by unfold cOf; repeat (first | rw [if_pos (by omega)] | rw [if_neg (by omega)])
          have hf:cFits a=true:=by unfold cFits; simp; omega
          exact ⟨ret_ib hc.symm hf.symm,hb.trans (by have:=hb.size; exact Below.mono (by assumption) this)⟩
        · clear hq
          go_wp2_with (go_at_call 13; refine (refc_Words _ _).mono ?_; rintro e w' ⟨rfl,hb'⟩; rw [show cWords 3=32 from rfl])
          go_roundw
          case rel=>exact ⟨4,by omega,rfl,hb.trans (by have:=hb.size; exact Below.mono (by assumption) this),by omega⟩
          case measure=>simp [intOf]
      · have hl:32≤a:=by omega
        clear hq
        go_wp2
        go_ret2
        have hc:cOf a=0:=by unfold cOf; repeat (first | rw [if_pos (by omega)] | rw [if_neg (by omega)])
        have hf:cFits a=false:=by unfold cFits; simp; omega
        exact ⟨ret_ib hc.symm hf.symm,hb⟩
  · have hc:cOf a=0:=by unfold cOf; rw [if_pos (by omega)]
    have hf:cFits a=false:=by unfold cFits; simp; omega
    have hd:decide (0≤a)=false:=by simpa using hn
    rw [hc,hf]
    clear hc hf
    go_enter Try.func41,Try.ntmps41
    go_wp2
    refine wp_loop_rounds 1 ?_
    rw [rounds_succ]
    go_wp2
    go_ret2
    exact ⟨rfl,Below.refl _ _⟩
end Go.Proofs.Ytffnjpapggidlaa
