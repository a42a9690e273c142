/- ArgX SameInt -/
import Derived.Test.YtffnjpapggidlaaGreatKPure5
import Derived.Test.YtffnjpapggidlaaGreatKAppM
import Derived.Test.YtffnjpapggidlaaGreatKArgK
import Derived.Test.YtffnjpapggidlaaGreatKPlain
import Derived.Test.YtffnjpapggidlaaGreatKStepAt
import Derived.Test.YtffnjpapggidlaaGreatKMem
import Derived.Test.YtffnjpapggidlaaGreatRows
import Derived.WalkKit
import Derived.WalkSpells
import Derived.WalkLawsBesides
import Derived.Deep.QuietTactic
import Derived.BigQuiet
import Derived.Lib.Hide
namespace Go.Proofs.YtffnjpapggidlaaGreat
open Go.RowKit
set_option linter.unusedVariables false
set_option linter.unusedSimpArgs false
def ArgX {α:Type} (K:RowK α) (w:World) (v:Value) (xs:List α):Prop :=
  xs.length≤maxLen∧∃ (p:Option Addr) (cap:Nat),v=.slice p xs.length cap ∧
    (xs.length=0 ∨ ∃ b o,p=some ⟨b,o,none⟩∧b<w.heap.size∧∀ i (h:i<xs.length) j (hj:j<(K.cl xs[i]).length),w.cell? ⟨b,o+(i * K.m+j),none⟩=some ((K.cl xs[i])[j]))
section
variable {α:Type} {K:RowK α} {w0 w:World} {ps:List Piece} {p:Option Addr} {b o c:Nat} {L:List α}
theorem argKX (h:ArgX K w0 (.slice p L.length c) L) {i:Int} (hi:inR i L.length=true):∃ b o,p=some ⟨b,o,none⟩:=by
  obtain ⟨h0,h1⟩:=inR_spec hi
  obtain ⟨_,p',c',e,h3⟩:=h
  injection e with e1 e2 e3
  subst e1
  rcases h3 with h3 | ⟨b,o,rfl,_⟩
  · omega
  · exact ⟨b,o,rfl⟩
theorem argAtX (h:ArgX K w0 (.slice (some ⟨b,o,none⟩) L.length c) L) (hS:St w0 [] ps w) {i:Int} (hi:inR i L.length=true) {cs:List Value} (he:K.cl (atX K L i)=cs):∀ j (hj:j<cs.length),w.cell? ⟨b,o+i.toNat * K.m+j,none⟩=some cs[j]:=by
  subst he
  intro j hj
  obtain ⟨h0,h1⟩:=inR_spec hi
  obtain ⟨_,p',c',e,h3⟩:=h
  injection e with e1 e2 e3
  subst e1
  rcases h3 with h3 | ⟨b',o',e,hb,hc⟩
  · omega
  · injection e with e
    injection e with e1 e2 e3
    subst e1; subst e2
    have hil:i.toNat<L.length:=by omega
    have el:atX K L i=L[i.toNat]:=by
      unfold atX
      rw [List.getD_eq_getElem?_getD,List.getElem?_eq_getElem hil]; rfl
    rw [hS.old.cell (p:=⟨b,o+i.toNat * K.m+j,none⟩) hb,Nat.add_assoc]
    have hj2:j<(K.cl L[i.toNat]).length:=by rw [← el]; exact hj
    rw [hc i.toNat hil j hj2]
    simp only [el]
end
theorem run_idxXO {P:Program} {ρ:Operand→Value} {o:Oper} {t e:TypeId} {x i:Operand} {g off m c sz:Nat} {z:Int} {k:IntKind} (ho:o.op=.indexAddr t x i) (hu:P.underlying t=some (.slice e)) (hs:(P.info? e).map (·.size)=some sz)
    (hx:ρ x=.slice (some ⟨g,off,none⟩) m c) (hi:ρ i=.int k z) (h0:0≤z) (h1:z<m) (w:World):(execOp ρ o).run P w=.ok (.value (.pointer (some ⟨g,off+z.toNat * sz,none⟩))) w:=by
  have ha:(⟨g,off,none⟩:Addr).add (z.toNat * sz)=⟨g,off+z.toNat * sz,none⟩:=add_at _ _ _
  unfold execOp
  rw [ho]
  simp only [hx,hi]
  apply run_v
  cases hinf:P.info? e with
  | none=>rw [hinf] at hs; simp at hs
  | some inf =>
    rw [hinf] at hs
    simp only [Option.map_some,Option.some.injEq] at hs
    simp only [Instr.indexAt,asIntOf,underlying,program,sizeOf,typeInfo,Sem.run_bind,Sem.run_pure,Sem.run,Result.andThen,hu,hinf,bind,pure,Sem.bind,h0,h1,and_self,if_true,hs,ha]
theorem argX_of {α:Type} (K:RowK α) (mk:(Nat→Int)→α) (hmk:∀ f,K.cl (mk f)=(List.range K.m).map fun j=>.int .i64 (f j)) {w:World} {v:Value} {len:Nat} {f:Nat→Nat→Int} (h:ArgOps w v K.m len f) :
    ArgX K w v ((List.range len).map fun i=>mk (f i))∧∀ i<len,∀ j<K.m,Wd (f i j):=by
  obtain ⟨h1,p,cap,rfl,h2⟩:=h
  refine ⟨⟨by simpa using h1,p,cap,by simp,?_⟩,?_⟩
  · rcases h2 with h2 | ⟨b,o,rfl,hb,hc⟩
    · left; simpa using h2
    · right
      refine ⟨b,o,rfl,hb,fun i hi j hj=>?_⟩
      have hil:i<len:=by simpa using hi
      have e:((List.range len).map fun i=>mk (f i))[i]=mk (f i):=by simp
      have hjm:j<K.m:=by rw [K.len] at hj; exact hj
      rw [(hc i j hil hjm).1]
      congr 1
      have:(K.cl ((List.range len).map fun i=>mk (f i))[i])[j]?=some (.int .i64 (f i j)):=by rw [e,hmk]; simp [hjm]
      rw [List.getElem?_eq_getElem hj] at this
      exact (Option.some.inj this).symm
  · intro i hi j hj
    rcases h2 with h2 | ⟨b,o,rfl,hb,hc⟩
    · omega
    · exact (hc i j hi hj).2
end Go.Proofs.YtffnjpapggidlaaGreat
namespace Go.Proofs.YtffnjpapggidlaaGreat
open Go.RowKit
theorem ints_beq (a b:Int):(a == b)=decide (a=b):=by by_cases h:a=b <;> simp [h]
theorem same_oneI (a b:Int) (w:World) :
    Calls Tryz.prog 135 #[.int .i64 a,.int .i64 b] w fun e w'=>e=.returned (.bool (decide (a=b)))∧w=w':=by
  go_enter Tryz.func135,Tryz.ntmps135
  go_wp2
  go_ret
  exact ⟨ret_b (ints_beq a b),rfl⟩
theorem same_int (v1 v2:Value) (xs ys:List Int) (w:World) (h1:Row w v1 (xs.map (.int .i64))) (h2:Row w v2 (ys.map (.int .i64))) :
    Calls Tryz.prog 134 #[v1,v2,.func (.func 135) #[] #[]] w fun e w'=>e=.returned (.bool (decide (xs=ys)))∧∃ n,w'=w.drewN n:=by
  obtain ⟨l1,p1,c1,rfl,h1⟩:=h1
  obtain ⟨l2,p2,c2,rfl,h2⟩:=h2
  simp only [List.length_map] at *
  unfold maxLen at l1 l2
  by_cases hl:xs.length=ys.length
  · have HL:=Lib.hid hl
    have H1:=Lib.hid h1
    have H2:=Lib.hid h2
    have hne:((xs.length:Int) != ys.length)=false:=by rw [hl]; simp
    clear hl h1 h2
    go_enter Tryz.func134,Tryz.ntmps134
    go_wp2
    go_loopw [7] (fun i wr=>∃ k n:Nat,k≤xs.length∧i=.int .i64 k∧wr=w.drewN n∧xs.take k=ys.take k) (fun i _=>xs.length - (intOf i).toNat)
    case atStart=>exact ⟨0,0,by omega,rfl,rfl,rfl⟩
    case round =>
      obtain ⟨k,n,hk,rfl,rfl,ht⟩:=hrel
      by_cases hlt:k<xs.length
      · obtain ⟨b1,o1,rfl,hc1⟩:=H1.out.resolve_left (by omega)
        obtain ⟨b2,o2,rfl,hc2⟩:=H2.out.resolve_left (by have:=HL.out; omega)
        have d1:=hc1 k (.int .i64 xs[k]) (by simp)
        have d2:=hc2 k (.int .i64 (ys[k]'(by have:=HL.out; omega))) (by simp)
        have HT:=Lib.hid ht
        clear hc1 hc2 ht
        have i0:(0:Int)≤k:=by omega
        have i1:(k:Int)<xs.length:=by omega
        have i2:(k:Int)<ys.length:=by have:=HL.out; omega
        go_wp2
        go_quiet ((go_at_call 135; exact quiet_add_left (same_oneI _ _ _)))
        go_wp2
        · have hd:(!decide (xs[k]=ys[k]'(by have:=HL.out; omega)))=true:=by assumption
          go_ret
          refine ⟨ret_b ?_,n+nq,by simp⟩
          symm; rw [decide_eq_false_iff_not]
          intro e
          subst e
          simp at hd
        · have hd:(!decide (xs[k]=ys[k]'(by have:=HL.out; omega)))=false:=by assumption
          refine ⟨⟨k+1,n+nq,by omega,by go_num,by simp,?_⟩,by simp [intOf]; omega⟩
          rw [List.take_succ_eq_append_getElem hlt,List.take_succ_eq_append_getElem (by have:=HL.out; omega),HT.out]
          simp at hd
          rw [hd]
      · go_wp2
        go_ret
        refine ⟨ret_b ?_,n,rfl⟩
        have hk':k=xs.length:=by omega
        have hl:=HL.out
        subst hk'
        rw [List.take_length,hl,List.take_length] at ht
        simp [ht]
  · go_enter Tryz.func134,Tryz.ntmps134
    go_wp2
    go_ret
    exact ⟨ret_b (by simp; intro e; exact hl (by rw [e])),0,rfl⟩
theorem plain_int (v1 v2:Value) (xs ys:List Int) (w:World) (h1:Row w v1 (xs.map (.int .i64))) (h2:Row w v2 (ys.map (.int .i64))) :
    Calls Tryz.prog 51 #[v1,v2] w fun e w'=>e=.returned (.bool (decide (xs=ys)))∧∃ n,w'=w.drewN n:=by
  go_enter Tryz.func51,Tryz.ntmps51
  go_wp2_with (go_at_call 134; refine (same_int _ _ xs ys _ h1 h2).mono ?_; rintro e w' ⟨rfl,n,rfl⟩)
  go_ret
  exact ⟨rfl,_,rfl⟩
theorem St.rowR {w0:World} {F0:List Nat} {ps:List Piece} {wr:World} (h:St w0 F0 ps wr) (k:Nat) {v:Value} {L:List Int} (hk:ps[k]?=some (RowP v L)):Row wr v (L.map (.int .i64)):=by
  have:=Row.of_own (h.row k hk)
  exact this
end Go.Proofs.YtffnjpapggidlaaGreat
