/- RefSpan4 RefSpan5 -/
import Derived.Test.YtffnjpapggidlaaKSepRef
import Derived.Test.YtffnjpapggidlaaKStepAt
import Derived.Test.YtffnjpapggidlaaKOrdersL
namespace Go.Proofs.Ytffnjpapggidlaa
open Go.RowKit
set_option linter.unusedVariables false
set_option linter.unusedSimpArgs false
def b8:Value:=.agg #[.bool false,.bool false,.bool false,.bool false,.bool false,.bool false,.bool false,.bool false]
theorem info_a8:(Try.prog.info? 105).map (fun i=>(i.zero,i.size,i.bytes))=some (some b8,8,8):=by kernel_rfl
def falses (n:Nat):List Value:=List.replicate (n * 8) (.bool false)
def f8:Array Value:=#[.bool false,.bool false,.bool false,.bool false,.bool false,.bool false,.bool false,.bool false]
def R8P (v:Value) (k:Nat):Piece where
  at' w F:=w.ownsRow 0 105 8 v k (falses k)∧F=v.ownBlock.toList
  keep:=by rintro w w' F G ⟨h,rfl⟩ k hd; exact ⟨k.own h (fun g hg=>hd _ (by simp [hg])),rfl⟩
  lt:=by rintro w F ⟨h,rfl⟩ i hi; simp at hi; exact own_lt h i hi
theorem St.nil8 {w0:World} {F0:List Nat} {ps:List Piece} {wr:World} (h:St w0 F0 ps wr):St w0 F0 (R8P (.slice none 0 0) 0::ps) wr :=
  h.push (Below.refl _ _) ⟨[],⟨World.ownsRow_nil _ _ _ _,rfl⟩,by simp⟩
theorem St.grow8 {w0:World} {F0:List Nat} {ps:List Piece} {wr w3:World} {v v':Value} {k:Nat} (h:St w0 F0 (R8P v k::ps) wr)
    (ho:w3.ownsRow 0 105 8 v' (k+1) (falses (k+1))) (hg:wr.grownBy w3 v.ownBlock) (hat:v'.ownBlock=v.ownBlock ∨ v'.ownBlock=some wr.heap.size):St w0 F0 (R8P v' (k+1)::ps) w3 :=
  h.step1 (by
    rintro F ⟨h1,rfl⟩
    refine ⟨v'.ownBlock.toList,⟨ho,rfl⟩,(Keeps.refl _ _).grown hg (fun k hk=>.inl (by simp [hk])),?_⟩
    intro i hi
    simp at hi
    rcases hat with e | e
    · left; simp [← e,hi]
    · right; rw [e] at hi; injection hi with hi; omega)
section
variable {ops:Array Oper} {o:Oper} {a:Act} {K:Act→World→Prop} {Q:Exit→Act→World→Prop} {E:Prop} {w0 W:World} {F0:List Nat} {ps:List Piece} {v:Value} {g k:Nat}
theorem step_grow {L:List Int} {y:Int} (hgd:o.guard=none) (s x:Operand) (ho:o.op=.call { callee:=.builtin .append,args:=#[s,x],argTypes:=#[22,22] })
    (h:St w0 F0 (RowP v L::BlkP g 3 #[.int .i64 y]::ps) W) (hs:a.eval s=v) {g':Nat} (hx:a.eval x=.slice (some ⟨g',0,none⟩) 1 1) (hg':g'=g) (n:Nat) (hn:L.length=n) (hl:n<1000000)
    (hK:∀ p c w',St w0 F0 (RowP (.slice p (n+1) c) (L ++ [y])::ps) w'→K (a.put o.dst (.slice p (n+1) c)) w'):if Region.wanted o (yielded ops a.tmps)=true then Oper.wp Try.prog o a W K Q else E:=by
  subst hn
  rw [hg'] at hx
  clear hg'
  obtain ⟨i0,hi,hz0,hz1,hz2⟩:=info_parts info_iV
  refine step_append_at hgd s x 22 ho 0 3 i0 (.int .i64 0) 1 8 Try.underlying22 hi hz0 hz1 hz2 rfl (by decide) v L.length (iV L) hs (h.row 0 rfl) ⟨g,0,none⟩ 1 1 [.int .i64 y] hx rfl ?_ ?_ (by unfold maxLen; omega) (by omega) (Nat.zero_le _) ?_
  · intro j u hj
    cases j with
    | zero=>simp at hj; subst hj; exact h.cell 1 rfl 0 rfl
    | succ j=>simp at hj
  · intro u hu; simp at hu; subst hu; rfl
  · intro v' w' ho' hg' hn' hat'
    obtain ⟨_,p,c,rfl,_⟩:=own_shape ho'
    exact hK p c w' (h.pick1.drop.grow' ho' hg' hat')
theorem falses_succ (k:Nat):falses k ++ f8.toList=falses (k+1):=by
  have:f8.toList=List.replicate 8 (Value.bool false):=rfl
  unfold falses
  rw [this,List.replicate_append_replicate,Nat.add_mul]
theorem step_grow8 (hgd:o.guard=none) (s x:Operand) (ho:o.op=.call { callee:=.builtin .append,args:=#[s,x],argTypes:=#[100,100] })
    (h:St w0 F0 (R8P v k::BlkP g 105 f8::ps) W) (hs:a.eval s=v) {g':Nat} (hx:a.eval x=.slice (some ⟨g',0,none⟩) 1 1) (hg':g'=g) (hl:k<1000000)
    (hK:∀ p c w',St w0 F0 (R8P (.slice p (k+1) c) (k+1)::ps) w'→K (a.put o.dst (.slice p (k+1) c)) w'):if Region.wanted o (yielded ops a.tmps)=true then Oper.wp Try.prog o a W K Q else E:=by
  rw [hg'] at hx
  clear hg'
  obtain ⟨i0,hi,hz0,hz1,hz2⟩:=info_parts info_a8
  obtain ⟨G,h1⟩:=h.head
  refine step_append_at hgd s x 100 ho 0 105 i0 b8 8 8 Try.underlying100 hi hz0 hz1 hz2 rfl (by decide) v k (falses k) hs h1.1 ⟨g,0,none⟩ 1 1 f8.toList hx rfl ?_ ?_ (by unfold maxLen; omega) (by omega) (Nat.zero_le _) ?_
  · intro j u hj
    have hc:=(h.get 1 rfl)
    obtain ⟨G',hb⟩:=hc
    have e:(⟨g,0,none⟩:Addr).add j=⟨g,j,none⟩:=by
      have:=Go.WideShapes.add_plain g 0 j
      simpa using this
    rw [e,hb.1.cell]
    simpa using hj
  · intro u hu; simp [f8] at hu; subst hu; rfl
  · intro v' w' ho' hg' hn' hat'
    rw [falses_succ] at ho'
    obtain ⟨_,p,c,rfl,_⟩:=own_shape ho'
    exact hK p c w' (h.pick1.drop.grow8 ho' hg' hat')
end
def NS (B:Nat) (v1 v2:Value) (L:Array Bool) (w:World):Prop:=(L.getD 7 false=false→w.cell? ⟨B,0,none⟩=some v1)∧(L.getD 14 false=false→w.cell? ⟨B,1,none⟩=some v2)
theorem NS.set {B:Nat} {v1 v2:Value} {i:Nat} (h1:i≠7) (h2:i≠14) (L:Array Bool) (w:World):NS B v1 v2 (L.setIfInBounds i true) w ↔ NS B v1 v2 L w:=by
  unfold NS; rw [getD_set_ne false h1,getD_set_ne false h2]
def nsI (B:Nat) (k:Nat) (v1 v2:Value):List Piece:=[RowP v1 (List.replicate k (-1)),R8P v2 k,BlkP B 102 #[v1,v2]]
set_option maxRecDepth 100000 in
set_option maxHeartbeats 16000000 in
theorem rspan_New_at (n:Nat) (hn2:2≤n) (hn:n≤128) {w0 w:World} {F0:List Nat} {ps:List Piece} (h0:St w0 F0 ps w) :
    Calls Try.prog 58 #[.int .i64 n] w fun e w'=>∃ B v1 v2,e=.returned (.tuple #[.pointer (some ⟨B,0,none⟩),.int .i64 0])∧St w0 F0 (RowP v1 (List.replicate n (-1))::R8P v2 n::BlkP B 102 #[v1,v2]::ps) w':=by
  have hx:=((h0.new #[.slice none 0 0,.slice none 0 0] 102).nil8).nil
  obtain ⟨B,hB⟩:∃ B,w.heap.size=B:=⟨_,rfl⟩
  rw [hB] at hx
  go_enter Try.func58,Try.ntmps58
  go_wp2
  clear hB
  go_loopw [5] (fun iv wr=>∃ (k:Nat) (v1 v2:Value),k≤n∧iv=.int .i64 k∧St w0 F0 (RowP v1 (List.replicate k (-1))::R8P v2 k::BlkP B 102 #[v1,v2]::ps) wr) (fun iv _=>n - (intOf iv).toNat)
  case atStart=>exact ⟨0,_,_,by omega,rfl,hx⟩
  case round =>
    obtain ⟨k,v1,v2,hk,rfl,h1⟩:=hrel
    clear hx h0
    by_cases hlt:k<n
    · go_wp2
      refine wp_region_L (NS B v1 v2) (by kernel_rfl) ?_
      replace h1:=h1.drew
      generalize wr.drew=W at *
      have hS:∀ L,NS B v1 v2 L W:=fun L=>⟨fun _=>h1.cell 2 rfl 0 rfl,fun _=>h1.cell 2 rfl 1 rfl⟩
      refine wpAnyL_pure (i:=0) (.pointer (some ⟨B,0,none⟩)) (by rfl) (by kernel_rfl) (by kernel_rfl) (by kernel_rfl) (by kernel_rfl) (by intro _ _ _ h; exact h) (NS.set (by decide) (by decide)) (hS _) (by rfl) (by intro w; go_simp; try rfl) ?_
      simp only [Act.put,List.setIfInBounds_toArray,List.set_cons_zero,List.set_cons_succ]
      refine wpAnyL_pure (i:=1) (.pointer (some ⟨B,0,none⟩)) (by rfl) (by kernel_rfl) (by kernel_rfl) (by kernel_rfl) (by kernel_rfl) (by intro _ _ _ h; exact h) (NS.set (by decide) (by decide)) (hS _) (by rfl) (by intro w; go_simp; try rfl) ?_
      simp only [Act.put,List.setIfInBounds_toArray,List.set_cons_zero,List.set_cons_succ]
      refine wpAnyL_pure (i:=2) (.pointer (some ⟨B,0,none⟩)) (by rfl) (by kernel_rfl) (by kernel_rfl) (by kernel_rfl) (by kernel_rfl) (by intro _ _ _ h; exact h) (NS.set (by decide) (by decide)) (hS _) (by rfl) (by intro w; go_simp; try rfl) ?_
      simp only [Act.put,List.setIfInBounds_toArray,List.set_cons_zero,List.set_cons_succ]
      refine wpAnyL_pure (i:=3) (.pointer (some ⟨B,0,none⟩)) (by rfl) (by kernel_rfl) (by kernel_rfl) (by kernel_rfl) (by kernel_rfl) (by intro _ _ _ h; exact h) (NS.set (by decide) (by decide)) (hS _) (by rfl) (by intro w; go_simp; try rfl) ?_
      simp only [Act.put,List.setIfInBounds_toArray,List.set_cons_zero,List.set_cons_succ]
      refine wpAnyL_pure (i:=4) (.pointer (some ⟨B,0,none⟩)) (by rfl) (by kernel_rfl) (by kernel_rfl) (by kernel_rfl) (by kernel_rfl) (by intro _ _ _ h; exact h) (NS.set (by decide) (by decide)) (hS _) (by rfl) (by intro w; go_simp; try rfl) ?_
      simp only [Act.put,List.setIfInBounds_toArray,List.set_cons_zero,List.set_cons_succ]
      refine wpAnyL_load (i:=5) v1 (fun w=>w.cell? ⟨B,0,none⟩=some v1) 7 (by rfl) (by kernel_rfl) (by kernel_rfl) (by kernel_rfl) (by kernel_rfl) (by kernel_rfl) (by intro _ _ _ h; exact h) (fun L w hL hS=>hS.1 hL) (NS.set (by decide) (by decide)) (hS _) (by rfl) (by intro w hc; go_simp) ?_
      simp only [Act.put,List.setIfInBounds_toArray,List.set_cons_zero,List.set_cons_succ]
      refine wpAnyL_pure (i:=8) (.pointer (some ⟨B,0,none⟩)) (by rfl) (by kernel_rfl) (by kernel_rfl) (by kernel_rfl) (by kernel_rfl) (by intro _ _ _ h; exact h) (NS.set (by decide) (by decide)) (hS _) (by rfl) (by intro w; go_simp; try rfl) ?_
      simp only [Act.put,List.setIfInBounds_toArray,List.set_cons_zero,List.set_cons_succ]
      refine wpAnyL_pure (i:=9) (.pointer (some ⟨B,0,none⟩)) (by rfl) (by kernel_rfl) (by kernel_rfl) (by kernel_rfl) (by kernel_rfl) (by intro _ _ _ h; exact h) (NS.set (by decide) (by decide)) (hS _) (by rfl) (by intro w; go_simp; try rfl) ?_
      simp only [Act.put,List.setIfInBounds_toArray,List.set_cons_zero,List.set_cons_succ]
      refine wpAnyL_pure (i:=10) (.pointer (some ⟨B,1,none⟩)) (by rfl) (by kernel_rfl) (by kernel_rfl) (by kernel_rfl) (by kernel_rfl) (by intro _ _ _ h; exact h) (NS.set (by decide) (by decide)) (hS _) (by rfl) (by intro w; go_simp; try rfl) ?_
      simp only [Act.put,List.setIfInBounds_toArray,List.set_cons_zero,List.set_cons_succ]
      refine wpAnyL_load (i:=11) v2 (fun w=>w.cell? ⟨B,1,none⟩=some v2) 14 (by rfl) (by kernel_rfl) (by kernel_rfl) (by kernel_rfl) (by kernel_rfl) (by kernel_rfl) (by intro _ _ _ h; exact h) (fun L w hL hS=>hS.2 hL) (NS.set (by decide) (by decide)) (hS _) (by rfl) (by intro w hc; go_simp) ?_
      simp only [Act.put,List.setIfInBounds_toArray,List.set_cons_zero,List.set_cons_succ]
      refine wpAnyL_pure (i:=12) b8 (by rfl) (by kernel_rfl) (by kernel_rfl) (by kernel_rfl) (by kernel_rfl) (by intro _ _ _ h; exact h) (NS.set (by decide) (by decide)) (hS _) (by rfl) (by intro w; go_simp; try rfl) ?_
      simp only [Act.put,List.setIfInBounds_toArray,List.set_cons_zero,List.set_cons_succ]
      refine wpAnyL_all (rs:=[6,13]) (by kernel_rfl) (by simp) ?_
      intro i hi
      simp only [List.mem_cons,List.not_mem_nil,or_false] at hi
      rcases hi with rfl | rfl
      · refine wpAnyL_one (by rfl) rfl ?_
        intro K hK
        go_simp
        have h10:=(h1.new #[.int .i64 (-1)] 3).back3
        try rw [show ∀ o,(W.alloc o).heap.size=W.heap.size+1 from fun o=>by simp] at h10
        refine hK _ _ ⟨fun _=>h10.cell 2 rfl 0 rfl,fun _=>h10.cell 2 rfl 1 rfl⟩ ?_
        clear hK K
        try simp only [Act.put,List.setIfInBounds_toArray,List.set_cons_zero,List.set_cons_succ]
        refine wpAnyL_all (rs:=[7,13]) (by kernel_rfl) (by simp) ?_
        intro i hi
        simp only [List.mem_cons,List.not_mem_nil,or_false] at hi
        rcases hi with rfl | rfl
        · refine wpAnyL_one (by rfl) rfl ?_
          intro K hK
          refine step_grow (by rfl) _ _ (by rfl) h10.pick3.pick1 (by rfl) (by rfl) (by first | rfl | simp) k (by simp) (by omega) ?_
          intro x cx W2 h20
          refine hK _ _ ⟨fun h=>absurd h (by decide),fun _=>h20.cell 2 rfl 1 rfl⟩ ?_
          clear hK K
          try simp only [Act.put,List.setIfInBounds_toArray,List.set_cons_zero,List.set_cons_succ]
          refine wpAnyL_all (rs:=[13]) (by kernel_rfl) (by simp) ?_
          intro i hi
          simp only [List.mem_cons,List.not_mem_nil,or_false] at hi
          subst hi
          refine wpAnyL_one (by rfl) rfl ?_
          intro K hK
          go_simp
          have h21:=(h20.new f8 105).back3
          try rw [show ∀ o,(W.alloc o).heap.size=W.heap.size+1 from fun o=>by simp] at h21
          refine hK _ _ ⟨fun h=>absurd h (by decide),fun _=>h21.cell 2 rfl 1 rfl⟩ ?_
          clear hK K
          try simp only [Act.put,List.setIfInBounds_toArray,List.set_cons_zero,List.set_cons_succ]
          refine wpAnyL_all (rs:=[14]) (by kernel_rfl) (by simp) ?_
          intro i hi
          simp only [List.mem_cons,List.not_mem_nil,or_false] at hi
          subst hi
          refine wpAnyL_one (by rfl) rfl ?_
          intro K hK
          refine step_grow8 (by rfl) _ _ (by rfl) h21.pick3.pick2 (by rfl) (by rfl) (by first | rfl | simp) (by omega) ?_
          intro y cy W3 h14
          replace h14:=h14.pick1
          refine hK _ _ ⟨fun h=>absurd h (by decide),fun h=>absurd h (by decide)⟩ ?_
          clear hK K
          try simp only [Act.put,List.setIfInBounds_toArray,List.set_cons_zero,List.set_cons_succ]
          have hT:∀ L,L.getD 7 false=true→L.getD 14 false=true→∀ w,NS B v1 v2 L w:=fun L a b w=>⟨fun h=>(by rw [a] at h; cases h),fun h=>(by rw [b] at h; cases h)⟩
          refine wpAnyL_pure (i:=15) (.pointer (some ⟨B,0,none⟩)) (by rfl) (by kernel_rfl) (by kernel_rfl) (by kernel_rfl) (by kernel_rfl) (by intro _ _ _ h; exact h) (NS.set (by decide) (by decide)) (hT _ (by decide) (by decide) _) (by rfl) (by intro w; go_simp; try rfl) ?_
          simp only [Act.put,List.setIfInBounds_toArray,List.set_cons_zero,List.set_cons_succ]
          refine wpAnyL_pure (i:=16) (.pointer (some ⟨B,0,none⟩)) (by rfl) (by kernel_rfl) (by kernel_rfl) (by kernel_rfl) (by kernel_rfl) (by intro _ _ _ h; exact h) (NS.set (by decide) (by decide)) (hT _ (by decide) (by decide) _) (by rfl) (by intro w; go_simp; try rfl) ?_
          simp only [Act.put,List.setIfInBounds_toArray,List.set_cons_zero,List.set_cons_succ]
          refine wpAnyL_all (rs:=[17]) (by kernel_rfl) (by simp) ?_
          intro i hi
          simp only [List.mem_cons,List.not_mem_nil,or_false] at hi
          subst hi
          refine wpAnyL_one (by rfl) rfl ?_
          intro K hK
          have f0:=h14.free 2 rfl 0
          have d0:=h14.cell 2 rfl 0 rfl
          go_simp
          have h17:=(h14.pick2.set 0 (.slice x (k+1) cx)).back2
          refine hK _ _ (hT _ (by decide) (by decide) _) ?_
          clear hK K
          try simp only [Act.put,List.setIfInBounds_toArray,List.set_cons_zero,List.set_cons_succ]
          refine wpAnyL_pure (i:=18) (.pointer (some ⟨B,0,none⟩)) (by rfl) (by kernel_rfl) (by kernel_rfl) (by kernel_rfl) (by kernel_rfl) (by intro _ _ _ h; exact h) (NS.set (by decide) (by decide)) (hT _ (by decide) (by decide) _) (by rfl) (by intro w; go_simp; try rfl) ?_
          simp only [Act.put,List.setIfInBounds_toArray,List.set_cons_zero,List.set_cons_succ]
          refine wpAnyL_pure (i:=19) (.pointer (some ⟨B,1,none⟩)) (by rfl) (by kernel_rfl) (by kernel_rfl) (by kernel_rfl) (by kernel_rfl) (by intro _ _ _ h; exact h) (NS.set (by decide) (by decide)) (hT _ (by decide) (by decide) _) (by rfl) (by intro w; go_simp; try rfl) ?_
          simp only [Act.put,List.setIfInBounds_toArray,List.set_cons_zero,List.set_cons_succ]
          refine wpAnyL_all (rs:=[20]) (by kernel_rfl) (by simp) ?_
          intro i hi
          simp only [List.mem_cons,List.not_mem_nil,or_false] at hi
          subst hi
          refine wpAnyL_one (by rfl) rfl ?_
          intro K hK
          have f1:=h17.free 2 rfl 1
          have d1:=h17.cell 2 rfl 1 rfl
          go_simp
          have h20:=(h17.pick2.set 1 (.slice y (k+1) cy)).back2
          refine hK _ _ (hT _ (by decide) (by decide) _) ?_
          clear hK K
          try simp only [Act.put,List.setIfInBounds_toArray,List.set_cons_zero,List.set_cons_succ]
          refine wpAnyL_done (by kernel_rfl) ?_ _
          go_wp2
          go_roundw
          case rel=>exact ⟨k+1,_,_,by omega,by go_num,(by rw [List.replicate_succ']; exact h20)⟩
          case measure=>simp [intOf]; omega
        · refine wpAnyL_one (by rfl) rfl ?_
          intro K hK
          go_simp
          have h11:=(h10.new f8 105).back4
          try rw [show ∀ o,(W.alloc o).heap.size=W.heap.size+1 from fun o=>by simp] at h11
          refine hK _ _ ⟨fun _=>h11.cell 2 rfl 0 rfl,fun _=>h11.cell 2 rfl 1 rfl⟩ ?_
          clear hK K
          try simp only [Act.put,List.setIfInBounds_toArray,List.set_cons_zero,List.set_cons_succ]
          refine wpAnyL_all (rs:=[7]) (by kernel_rfl) (by simp) ?_
          intro i hi
          simp only [List.mem_cons,List.not_mem_nil,or_false] at hi
          subst hi
          refine wpAnyL_one (by rfl) rfl ?_
          intro K hK
          refine step_grow (by rfl) _ _ (by rfl) h11.pick3.pick1 (by rfl) (by rfl) (by first | rfl | simp) k (by simp) (by omega) ?_
          intro x cx W2 h21
          refine hK _ _ ⟨fun h=>absurd h (by decide),fun _=>h21.cell 2 rfl 1 rfl⟩ ?_
          clear hK K
          try simp only [Act.put,List.setIfInBounds_toArray,List.set_cons_zero,List.set_cons_succ]
          refine wpAnyL_all (rs:=[14]) (by kernel_rfl) (by simp) ?_
          intro i hi
          simp only [List.mem_cons,List.not_mem_nil,or_false] at hi
          subst hi
          refine wpAnyL_one (by rfl) rfl ?_
          intro K hK
          refine step_grow8 (by rfl) _ _ (by rfl) h21.pick3.pick2 (by rfl) (by rfl) (by first | rfl | simp) (by omega) ?_
          intro y cy W3 h14
          replace h14:=h14.pick1
          refine hK _ _ ⟨fun h=>absurd h (by decide),fun h=>absurd h (by decide)⟩ ?_
          clear hK K
          try simp only [Act.put,List.setIfInBounds_toArray,List.set_cons_zero,List.set_cons_succ]
          have hT:∀ L,L.getD 7 false=true→L.getD 14 false=true→∀ w,NS B v1 v2 L w:=fun L a b w=>⟨fun h=>(by rw [a] at h; cases h),fun h=>(by rw [b] at h; cases h)⟩
          refine wpAnyL_pure (i:=15) (.pointer (some ⟨B,0,none⟩)) (by rfl) (by kernel_rfl) (by kernel_rfl) (by kernel_rfl) (by kernel_rfl) (by intro _ _ _ h; exact h) (NS.set (by decide) (by decide)) (hT _ (by decide) (by decide) _) (by rfl) (by intro w; go_simp; try rfl) ?_
          simp only [Act.put,List.setIfInBounds_toArray,List.set_cons_zero,List.set_cons_succ]
          refine wpAnyL_pure (i:=16) (.pointer (some ⟨B,0,none⟩)) (by rfl) (by kernel_rfl) (by kernel_rfl) (by kernel_rfl) (by kernel_rfl) (by intro _ _ _ h; exact h) (NS.set (by decide) (by decide)) (hT _ (by decide) (by decide) _) (by rfl) (by intro w; go_simp; try rfl) ?_
          simp only [Act.put,List.setIfInBounds_toArray,List.set_cons_zero,List.set_cons_succ]
          refine wpAnyL_all (rs:=[17]) (by kernel_rfl) (by simp) ?_
          intro i hi
          simp only [List.mem_cons,List.not_mem_nil,or_false] at hi
          subst hi
          refine wpAnyL_one (by rfl) rfl ?_
          intro K hK
          have f0:=h14.free 2 rfl 0
          have d0:=h14.cell 2 rfl 0 rfl
          go_simp
          have h17:=(h14.pick2.set 0 (.slice x (k+1) cx)).back2
          refine hK _ _ (hT _ (by decide) (by decide) _) ?_
          clear hK K
          try simp only [Act.put,List.setIfInBounds_toArray,List.set_cons_zero,List.set_cons_succ]
          refine wpAnyL_pure (i:=18) (.pointer (some ⟨B,0,none⟩)) (by rfl) (by kernel_rfl) (by kernel_rfl) (by kernel_rfl) (by kernel_rfl) (by intro _ _ _ h; exact h) (NS.set (by decide) (by decide)) (hT _ (by decide) (by decide) _) (by rfl) (by intro w; go_simp; try rfl) ?_
          simp only [Act.put,List.setIfInBounds_toArray,List.set_cons_zero,List.set_cons_succ]
          refine wpAnyL_pure (i:=19) (.pointer (some ⟨B,1,none⟩)) (by rfl) (by kernel_rfl) (by kernel_rfl) (by kernel_rfl) (by kernel_rfl) (by intro _ _ _ h; exact h) (NS.set (by decide) (by decide)) (hT _ (by decide) (by decide) _) (by rfl) (by intro w; go_simp; try rfl) ?_
          simp only [Act.put,List.setIfInBounds_toArray,List.set_cons_zero,List.set_cons_succ]
          refine wpAnyL_all (rs:=[20]) (by kernel_rfl) (by simp) ?_
          intro i hi
          simp only [List.mem_cons,List.not_mem_nil,or_false] at hi
          subst hi
          refine wpAnyL_one (by rfl) rfl ?_
          intro K hK
          have f1:=h17.free 2 rfl 1
          have d1:=h17.cell 2 rfl 1 rfl
          go_simp
          have h20:=(h17.pick2.set 1 (.slice y (k+1) cy)).back2
          refine hK _ _ (hT _ (by decide) (by decide) _) ?_
          clear hK K
          try simp only [Act.put,List.setIfInBounds_toArray,List.set_cons_zero,List.set_cons_succ]
          refine wpAnyL_done (by kernel_rfl) ?_ _
          go_wp2
          go_roundw
          case rel=>exact ⟨k+1,_,_,by omega,by go_num,(by rw [List.replicate_succ']; exact h20)⟩
          case measure=>simp [intOf]; omega
      · refine wpAnyL_one (by rfl) rfl ?_
        intro K hK
        go_simp
        have h01:=(h1.new f8 105).back3
        try rw [show ∀ o,(W.alloc o).heap.size=W.heap.size+1 from fun o=>by simp] at h01
        refine hK _ _ ⟨fun _=>h01.cell 2 rfl 0 rfl,fun _=>h01.cell 2 rfl 1 rfl⟩ ?_
        clear hK K
        try simp only [Act.put,List.setIfInBounds_toArray,List.set_cons_zero,List.set_cons_succ]
        refine wpAnyL_all (rs:=[6]) (by kernel_rfl) (by simp) ?_
        intro i hi
        simp only [List.mem_cons,List.not_mem_nil,or_false] at hi
        subst hi
        refine wpAnyL_one (by rfl) rfl ?_
        intro K hK
        go_simp
        have h11:=(h01.new #[.int .i64 (-1)] 3).back3
        try rw [show ∀ o,(W.alloc o).heap.size=W.heap.size+1 from fun o=>by simp] at h11
        refine hK _ _ ⟨fun _=>h11.cell 2 rfl 0 rfl,fun _=>h11.cell 2 rfl 1 rfl⟩ ?_
        clear hK K
        try simp only [Act.put,List.setIfInBounds_toArray,List.set_cons_zero,List.set_cons_succ]
        refine wpAnyL_all (rs:=[7]) (by kernel_rfl) (by simp) ?_
        intro i hi
        simp only [List.mem_cons,List.not_mem_nil,or_false] at hi
        subst hi
        refine wpAnyL_one (by rfl) rfl ?_
        intro K hK
        refine step_grow (by rfl) _ _ (by rfl) h11.pick3.pick1 (by rfl) (by rfl) (by first | rfl | simp) k (by simp) (by omega) ?_
        intro x cx W2 h21
        refine hK _ _ ⟨fun h=>absurd h (by decide),fun _=>h21.cell 2 rfl 1 rfl⟩ ?_
        clear hK K
        try simp only [Act.put,List.setIfInBounds_toArray,List.set_cons_zero,List.set_cons_succ]
        refine wpAnyL_all (rs:=[14]) (by kernel_rfl) (by simp) ?_
        intro i hi
        simp only [List.mem_cons,List.not_mem_nil,or_false] at hi
        subst hi
        refine wpAnyL_one (by rfl) rfl ?_
        intro K hK
        refine step_grow8 (by rfl) _ _ (by rfl) h21.pick3.pick2 (by rfl) (by rfl) (by first | rfl | simp) (by omega) ?_
        intro y cy W3 h14
        replace h14:=h14.pick1
        refine hK _ _ ⟨fun h=>absurd h (by decide),fun h=>absurd h (by decide)⟩ ?_
        clear hK K
        try simp only [Act.put,List.setIfInBounds_toArray,List.set_cons_zero,List.set_cons_succ]
        have hT:∀ L,L.getD 7 false=true→L.getD 14 false=true→∀ w,NS B v1 v2 L w:=fun L a b w=>⟨fun h=>(by rw [a] at h; cases h),fun h=>(by rw [b] at h; cases h)⟩
        refine wpAnyL_pure (i:=15) (.pointer (some ⟨B,0,none⟩)) (by rfl) (by kernel_rfl) (by kernel_rfl) (by kernel_rfl) (by kernel_rfl) (by intro _ _ _ h; exact h) (NS.set (by decide) (by decide)) (hT _ (by decide) (by decide) _) (by rfl) (by intro w; go_simp; try rfl) ?_
        simp only [Act.put,List.setIfInBounds_toArray,List.set_cons_zero,List.set_cons_succ]
        refine wpAnyL_pure (i:=16) (.pointer (some ⟨B,0,none⟩)) (by rfl) (by kernel_rfl) (by kernel_rfl) (by kernel_rfl) (by kernel_rfl) (by intro _ _ _ h; exact h) (NS.set (by decide) (by decide)) (hT _ (by decide) (by decide) _) (by rfl) (by intro w; go_simp; try rfl) ?_
        simp only [Act.put,List.setIfInBounds_toArray,List.set_cons_zero,List.set_cons_succ]
        refine wpAnyL_all (rs:=[17]) (by kernel_rfl) (by simp) ?_
        intro i hi
        simp only [List.mem_cons,List.not_mem_nil,or_false] at hi
        subst hi
        refine wpAnyL_one (by rfl) rfl ?_
        intro K hK
        have f0:=h14.free 2 rfl 0
        have d0:=h14.cell 2 rfl 0 rfl
        go_simp
        have h17:=(h14.pick2.set 0 (.slice x (k+1) cx)).back2
        refine hK _ _ (hT _ (by decide) (by decide) _) ?_
        clear hK K
        try simp only [Act.put,List.setIfInBounds_toArray,List.set_cons_zero,List.set_cons_succ]
        refine wpAnyL_pure (i:=18) (.pointer (some ⟨B,0,none⟩)) (by rfl) (by kernel_rfl) (by kernel_rfl) (by kernel_rfl) (by kernel_rfl) (by intro _ _ _ h; exact h) (NS.set (by decide) (by decide)) (hT _ (by decide) (by decide) _) (by rfl) (by intro w; go_simp; try rfl) ?_
        simp only [Act.put,List.setIfInBounds_toArray,List.set_cons_zero,List.set_cons_succ]
        refine wpAnyL_pure (i:=19) (.pointer (some ⟨B,1,none⟩)) (by rfl) (by kernel_rfl) (by kernel_rfl) (by kernel_rfl) (by kernel_rfl) (by intro _ _ _ h; exact h) (NS.set (by decide) (by decide)) (hT _ (by decide) (by decide) _) (by rfl) (by intro w; go_simp; try rfl) ?_
        simp only [Act.put,List.setIfInBounds_toArray,List.set_cons_zero,List.set_cons_succ]
        refine wpAnyL_all (rs:=[20]) (by kernel_rfl) (by simp) ?_
        intro i hi
        simp only [List.mem_cons,List.not_mem_nil,or_false] at hi
        subst hi
        refine wpAnyL_one (by rfl) rfl ?_
        intro K hK
        have f1:=h17.free 2 rfl 1
        have d1:=h17.cell 2 rfl 1 rfl
        go_simp
        have h20:=(h17.pick2.set 1 (.slice y (k+1) cy)).back2
        refine hK _ _ (hT _ (by decide) (by decide) _) ?_
        clear hK K
        try simp only [Act.put,List.setIfInBounds_toArray,List.set_cons_zero,List.set_cons_succ]
        refine wpAnyL_done (by kernel_rfl) ?_ _
        go_wp2
        go_roundw
        case rel=>exact ⟨k+1,_,_,by omega,by go_num,(by rw [List.replicate_succ']; exact h20)⟩
        case measure=>simp [intOf]; omega
    · have hkn:k=n:=by omega
      subst hkn
      go_wp2
      go_ret2
      exact ⟨B,v1,v2,rfl,h1⟩
end Go.Proofs.Ytffnjpapggidlaa
namespace Go.Proofs.Ytffnjpapggidlaa
open Go.RowKit
set_option linter.unusedVariables false
def padC (r:SRow) (k:Nat):Nat:=((List.range k).filter (pad r)).length
theorem padC_succ (r:SRow) (k:Nat):padC r (k+1)=padC r k+if pad r k then 1 else 0:=by
  unfold padC; rw [List.range_succ,List.filter_append,List.length_append]
  cases h:pad r k <;> simp [h]
theorem padC_le (r:SRow) (k:Nat):padC r k≤k:=Nat.le_trans (List.length_filter_le _ _) (by simp)
theorem padC_take (r:SRow) (k:Nat):padC r k=used (r.2.take k):=by
  induction k with
  | zero=>rfl
  | succ k ih =>
    rw [padC_succ,ih]
    by_cases h:k<r.2.length
    · rw [used_snoc _ _ h]
      unfold pad
      rw [List.getElem?_eq_getElem h]
      cases r.2[k] <;> rfl
    · rw [List.take_of_length_le (by omega),List.take_of_length_le (by omega)]
      have:pad r k=false:=by unfold pad; rw [List.getElem?_eq_none (by omega)]; rfl
      rw [this]; rfl
theorem padC_all (r:SRow) (h:r.2.length≤8):padC r 8=used r.2:=by rw [padC_take,List.take_of_length_le h]
theorem sWords_succ (l:List SRow) (i:Nat) (h:i<l.length):sWords (l.take (i+1))=sWords (l.take i)+(used l[i].2:Int) * cWords l[i].1:=by
  unfold sWords; rw [List.take_succ_eq_append_getElem h,List.map_append,List.sum_append]; simp
section
variable {w0 w:World} {F0:List Nat} {ps:List Piece} {b:Nat} {l:List SRow}
theorem St.rslots (h:St w0 F0 ps w) (k:Nat) (hk:ps[k]?=some (RSpanP b l)):∃ g c,w.cell? ⟨b,1,none⟩=some (.slice (some ⟨g,0,none⟩) l.length c)∧∀ i (hi:i<l.length) j,j<8→w.cell? ⟨g,i * 8+j,none⟩=some (.bool (pad l[i] j)):=by
  obtain ⟨G,g1,c1,g2,c2,h1,h2,h3,m1,m2,_,h128,hok,_⟩:=h.get k hk
  have e1:=h1.cell 1
  simp at e1
  exact ⟨g2,c2,e1,fun i hi j hj=>(h3.cell i hi j hj).1⟩
set_option maxHeartbeats 2000000 in
theorem rs_Words (h:St w0 F0 (RSpanP b l::ps) w) :
    Calls Try.prog 28 #[.pointer (some ⟨b,0,none⟩)] w fun e w'=>e=.returned (.int .i64 (sWords l))∧St w0 F0 (RSpanP b l::ps) w':=by
  obtain ⟨hok,h128⟩:=h.rspan 0 rfl
  have hbd:∀ i,i≤l.length→0≤sWords (l.take i)∧sWords (l.take i)≤256 * i:=by
    intro i
    induction i with
    | zero=>intro _; simp [sWords]
    | succ i ih =>
      intro hi
      obtain ⟨a,c⟩:=ih (by omega)
      rw [sWords_succ l i (by omega)]
      have h8:=(hok _ (List.getElem_mem (show i<l.length by omega))).len
      have hu:used (l[i]'(by omega)).2≤8:=Nat.le_trans List.count_le_length h8
      obtain ⟨w1,w2⟩:=cWords_bd (l[i]'(by omega)).1
      have m0:0≤(used (l[i]'(by omega)).2:Int) * cWords (l[i]'(by omega)).1:=Int.mul_nonneg (by omega) w1
      have m1:(used (l[i]'(by omega)).2:Int) * cWords (l[i]'(by omega)).1≤8 * 32:=Int.mul_le_mul (by omega) w2 w1 (by omega)
      omega
  have HBD:=Lib.hid hbd
  have HOK:=Lib.hid hok
  clear hbd hok
  go_enter Try.func28,Try.ntmps28
  go_wp2
  go_loopw [3,4,5] (fun nv iv jv wr=>∃ i:Nat,i≤l.length∧iv=.int .i64 i∧nv=.int .i64 (sWords (l.take i))∧St w0 F0 (RSpanP b l::ps) wr) (fun _ iv _ _=>l.length - (intOf iv).toNat)
  case atStart=>exact ⟨0,by omega,rfl,rfl,h⟩
  case round =>
    obtain ⟨i,hi,rfl,rfl,h1⟩:=hrel
    clear h
    obtain ⟨g1,c1,e1,d1⟩:=h1.rclass 0 rfl
    by_cases hlt:i<l.length
    · have hs:=sWords_succ l i hlt
      have hw:=cWords_bd (l[i]'hlt).1
      obtain ⟨s0,s1⟩:=HBD.out i hi
      have hpa:=padC_all (l[i]'hlt) (HOK.out _ (List.getElem_mem hlt)).len
      have HS:=Lib.hid (And.intro hs hpa)
      generalize sWords (l.take i)=s at *
      obtain ⟨W,hW⟩:∃ W,cWords (l[i]'hlt).1=W:=⟨_,rfl⟩
      rw [hW] at hw
      obtain ⟨W0,W1⟩:=hw
      have HWW:=Lib.hid hW
      obtain ⟨r,hr⟩:∃ r,l[i]'hlt=r:=⟨_,rfl⟩
      have HR:=Lib.hid hr
      rw [hr] at HS HWW
      have i0:(0:Int)≤i:=by omega
      have i1:(i:Int)<l.length:=by omega
      clear hs hpa hW hr d1
      go_wp2
      go_loopw [3,5] (fun nv jv wr=>∃ j:Nat,j≤8∧jv=.int .i64 j∧nv=.int .i64 (s+(padC r j:Int) * W)∧St w0 F0 (RSpanP b l::ps) wr) (fun _ jv _=>8 - (intOf jv).toNat)
      case atStart=>exact ⟨0,by omega,rfl,by congr 1; simp [padC],h1⟩
      case round =>
        obtain ⟨j,hj,rfl,rfl,h2⟩:=hrel
        clear h1 e1
        by_cases hlj:j<8
        · obtain ⟨g1,c1,e1,d1⟩:=h2.rclass 0 rfl
          obtain ⟨g2,c2,e2,d2⟩:=h2.rslots 0 rfl
          have x1:=d1 i hlt
          have x2:=d2 i hlt j hlj
          rw [HR.out] at x1 x2
          have hps:=padC_succ r j
          have hpl:=padC_le r j
          obtain ⟨m,hm⟩:∃ m:Int,(padC r j:Int) * W=m:=⟨_,rfl⟩
          have m0:0≤m:=by rw [← hm]; exact Int.mul_nonneg (by omega) W0
          have m1:m≤8 * 32:=by rw [← hm]; exact Int.mul_le_mul (by omega) W1 W0 (by omega)
          rw [hm]
          have HM:=Lib.hid (And.intro hm hps)
          have j0:(0:Int)≤j:=by omega
          have j1:(j:Int)<8:=by omega
          clear d1 d2 hm hps hpl
          cases hp:pad r j with
          | false =>
            rw [hp] at x2
            have HP:=Lib.hid hp
            clear hp
            go_wp2
            go_roundw
            case rel=>exact ⟨j+1,by omega,by go_num,by rw [HM.out.2,HP.out,← HM.out.1]; simp,h2⟩
            case measure=>simp [intOf]; omega
          | true =>
            rw [hp] at x2
            have HP:=Lib.hid hp
            clear hp
            go_wp2_with fail
            refine (refc_Words _ _).mono ?_
            rintro e w3 ⟨rfl,hb3⟩
            rw [HWW.out]
            have h3:=h2.below hb3
            clear h2 hb3 x1 x2 e1 e2
            go_wp2
            go_roundw
            case rel =>
              refine ⟨j+1,by omega,by go_num,?_,h3⟩
              rw [HM.out.2,HP.out,← HM.out.1]
              simp [Int.add_mul]; omega
            case measure=>simp [intOf]; omega
        · have hj8:j=8:=by omega
          subst hj8
          go_wp2
          go_roundw
          case rel =>
            refine ⟨i+1,by omega,by go_num,?_,h2⟩
            rw [HS.out.1,HS.out.2,HWW.out]
          case measure=>simp [intOf]; omega
    · have hil:i=l.length:=by omega
      subst hil
      go_wp2
      go_ret
      exact ⟨ret_i (by rw [List.take_of_length_le (Nat.le_refl _)]),h1⟩
theorem rnew_join {B n:Nat} {v1 v2:Value} (hn2:2≤n) (hn:n≤128) (h:St w0 F0 (RowP v1 (List.replicate n (-1))::R8P v2 n::BlkP B 102 #[v1,v2]::ps) w):St w0 F0 (RSpanP B (sNew n)::ps) w:=by
  refine St.step (ps:=[RowP v1 (List.replicate n (-1)),R8P v2 n,BlkP B 102 #[v1,v2]]) (ps':=[RSpanP B (sNew n)]) h ?_
  rintro F ⟨F1,F2,rfl,⟨o1,rfl⟩,⟨F3,F4,rfl,⟨o2,rfl⟩,⟨F5,F6,rfl,⟨hb,rfl⟩,h6,hd6⟩,hd4⟩,hd⟩
  cases h6
  have hl:(sNew n).length=n:=by simp [sNew]
  have hrow:∀ i (hi:i<(sNew n).length),(sNew n)[i]=noRow:=by intro i hi; simp [sNew]
  obtain ⟨_,⟨_,hz⟩ | ⟨g1,c1,cur1,rfl,_,hg1,hn1,hm1,hs1,ht1⟩⟩:=o1
  · simp at hz; omega
  obtain ⟨_,⟨_,hz⟩ | ⟨g2,c2,cur2,rfl,_,hg2,hn2',hm2,hs2,ht2⟩⟩:=o2
  · omega
  simp only [List.length_replicate,iV_len] at *
  refine ⟨[B,g1,g2] ++ [],⟨[B,g1,g2],[],rfl,?_,rfl,by simp⟩,Keeps.refl _ _,?_⟩
  · refine ⟨g1,c1,g2,c2,by rw [hl]; exact hb,⟨cur1,hg1,by omega,by omega,?_⟩,⟨cur2,hg2,by omega,by omega,?_⟩,hm1,hm2,rfl,by omega,?_,?_,?_,?_⟩
    · intro i hi
      rw [hrow i hi]
      have hi':i<n:=by rw [hl] at hi; exact hi
      have e:(cur1.toList.take (n * 1))[i]?=some (.int .i64 (-1)):=by
        rw [ht1]; unfold iV; rw [List.map_replicate,List.getElem?_replicate,if_pos hi']
      rw [List.getElem?_take,if_pos (by omega)] at e
      simpa [noRow] using e
    · intro i hi k hk
      rw [hrow i hi]
      have hi':i<n:=by rw [hl] at hi; exact hi
      have e:(cur2.toList.take (n * 8))[i * 8+k]?=some (.bool false):=by
        rw [ht2]; unfold falses; rw [List.getElem?_replicate,if_pos (by omega)]
      rw [List.getElem?_take,if_pos (by omega)] at e
      simpa [pad_none] using e
    · intro r hr
      have:=List.eq_of_mem_replicate hr
      subst this; exact .inl ⟨rfl,rfl⟩
    · rintro rfl; exact hd B (by simp [Value.ownBlock]) (by simp)
    · rintro rfl; exact hd4 B (by simp [Value.ownBlock]) (by simp)
    · rintro rfl; exact hd g1 (by simp [Value.ownBlock]) (by simp [Value.ownBlock])
  · intro i hi
    simp [Value.ownBlock] at hi ⊢
    rcases hi with rfl | rfl | rfl <;> simp
theorem rs_New {n:Nat} (hn2:2≤n) (hn:n≤128) (h0:St w0 F0 ps w) :
    Calls Try.prog 58 #[.int .i64 n] w fun e w'=>∃ B,e=.returned (.tuple #[.pointer (some ⟨B,0,none⟩),.int .i64 0])∧St w0 F0 (RSpanP B (sNew n)::ps) w' :=
  (rspan_New_at n hn2 hn h0).mono fun e w' ⟨B,v1,v2,he,h⟩=>⟨B,he,rnew_join hn2 hn h⟩
end
end Go.Proofs.Ytffnjpapggidlaa
