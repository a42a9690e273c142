/- View2N SepRef PureRefArena RowB Umod -/
import Derived.Test.YtaojmbkmicjecaaGreatKView
import Derived.Test.YtaojmbkmicjecaaGreatKMem
import Derived.Test.YtaojmbkmicjecaaGreatKRefSpan3
import Derived.Test.YtaojmbkmicjecaaGreatKClass
import Derived.Test.YtaojmbkmicjecaaGreatKPureArena
import Derived.Test.YtaojmbkmicjecaaGreatKEv2
import Derived.Laws.ResultCell
import Derived.Deep.RegionHeld3
import Derived.WalkKit
namespace Go.Proofs.YtaojmbkmicjecaaGreat
open Go.RowKit
set_option linter.unusedVariables false
set_option linter.unusedSimpArgs false
section
variable {w0 w:World} {F0:List Nat} {ps:List Piece} {b ab:Nat} {h:HSt}
end
end Go.Proofs.YtaojmbkmicjecaaGreat
namespace Go.Proofs.YtaojmbkmicjecaaGreat
open Go.RowKit
set_option linter.unusedVariables false
def RSpanP (b:Nat) (l:List SRow):Piece where
  at' w F:=RSpanAt w b l F
  keep h k hd:=h.keep k hd
  lt h:=h.lt
section
variable {w0 w:World} {F0:List Nat} {ps:List Piece} {b:Nat} {l:List SRow}
theorem St.rspan (h:St w0 F0 ps w) (k:Nat) (hk:ps[k]?=some (RSpanP b l)):(∀ r ∈ l,RowOk r)∧l.length≤128:=by
  obtain ⟨G,g1,c1,g2,c2,h1,h2,h3,m1,m2,_,h128,hok,_⟩:=h.get k hk
  exact ⟨hok,h128⟩
theorem St.rclass (h:St w0 F0 ps w) (k:Nat) (hk:ps[k]?=some (RSpanP b l)):∃ g c,w.cell? ⟨b,0,none⟩=some (.slice (some ⟨g,0,none⟩) l.length c)∧∀ i (hi:i<l.length),w.cell? ⟨g,i,none⟩=some (.int .i64 l[i].1):=by
  obtain ⟨G,g1,c1,g2,c2,h1,h2,h3,m1,m2,_,h128,hok,_⟩:=h.get k hk
  have e0:=h1.cell 0
  simp at e0
  exact ⟨g1,c1,e0,fun i hi=>(h2.cell i hi).1⟩
theorem rs_Used (h:St w0 F0 ps w) (k:Nat) (hk:ps[k]?=some (RSpanP b l)) (a s:Int) :
    Calls Tryz.prog 163 #[.pointer (some ⟨b,0,none⟩),.int .i64 a,.int .i64 s] w fun e w'=>e=.returned (.bool (sUsed l a s))∧w=w':=by
  obtain ⟨F,h1⟩:=h.get k hk; exact rspan_Used _ _ _ _ _ _ h1
theorem rs_Alloc (h:St w0 F0 (RSpanP b l::ps) w) (k:Int) :
    Calls Tryz.prog 161 #[.pointer (some ⟨b,0,none⟩),.int .i64 k] w fun e w'=>e=.returned (sAllocV k l)∧St w0 F0 (RSpanP b (sAllocL k l)::ps) w' :=
  h.call (p':=RSpanP b (sAllocL k l)) fun F h1=>(rspan_Alloc _ _ _ _ _ h1).mono fun e w' ⟨he,a,k⟩=>⟨he,F,a,k,fun i hi=>.inl hi⟩
end
end Go.Proofs.YtaojmbkmicjecaaGreat
namespace Go.Proofs.YtaojmbkmicjecaaGreat
set_option linter.unusedVariables false
def RW (s:ASt) (W:List Int):Prop :=
  W.length=s.c.length∧∀ (p:Nat) (k n:Int),s.c[p]?=some (.head k n)→W[p]?=some (k+16 * n)∧∀ j:Nat,j<n.toNat→∃ x,s.c[p+1+j]?=some (.word x)∧W[p+1+j]?=some x
theorem isObj_at {s:ASt} (hok:AOk s) (p:Nat):(aHead s.c p).isSome=(decide (0<nW s.l (p / 32)) && decide (p % 32 % nW s.l (p / 32)=0) && sUsed s.l (p / 32:Nat) (p % 32 / nW s.l (p / 32):Nat)):=by
  cases e:aHead s.c p with
  | some kn =>
    obtain ⟨k,n⟩:=kn
    obtain ⟨q,e1,hq⟩:=aHead_some e
    have:p=q:=by omega
    subst this
    obtain ⟨g1,g2,g3,g4,g5,g6,g7,g8,g9,g10,g11⟩:=head_geo hok hq
    have hd:=Nat.div_add_mod (p % 32) (nW s.l (p / 32))
    rw [Nat.mul_comm] at hd
    have hm:p % 32 % nW s.l (p / 32)=0:=by omega
    rw [g2,decide_eq_true g5,decide_eq_true hm]; rfl
  | none =>
    cases h:(decide (0<nW s.l (p / 32)) && decide (p % 32 % nW s.l (p / 32)=0) && sUsed s.l (p / 32:Nat) (p % 32 / nW s.l (p / 32):Nat)) with
    | false=>rfl
    | true =>
      simp only [Bool.and_eq_true,decide_eq_true_eq] at h
      obtain ⟨⟨h0,hm⟩,hu⟩:=h
      obtain ⟨k,n,hk⟩:=hok.slot _ _ hu
      have hd:=Nat.div_add_mod (p % 32) (nW s.l (p / 32))
      rw [Nat.mul_comm] at hd
      have ep:p / 32 * 32+p % 32 / nW s.l (p / 32) * nW s.l (p / 32)=p:=by omega
      rw [ep] at hk
      rw [aHead_nat hk] at e; cases e
def zeros (W:List Int) (p:Nat):Nat→List Int
  | 0=>W
  | n+1=>(zeros W p n).set (p+n) 0
theorem zeros_len (W:List Int) (p n:Nat):(zeros W p n).length=W.length:=by
  induction n with
  | zero=>rfl
  | succ n ih=>simp [zeros,ih]
theorem zeros_get (W:List Int) (p n q:Nat):(zeros W p n)[q]?=if p≤q∧q<p+n∧q<W.length then some 0 else W[q]?:=by
  induction n with
  | zero=>rw [if_neg (by omega)]; rfl
  | succ n ih =>
    unfold zeros
    rw [List.getElem?_set,zeros_len,ih]
    by_cases e:p+n=q
    · subst e
      rw [if_pos rfl]
      by_cases hl:p+n<W.length
      · rw [if_pos hl,if_pos ⟨by omega,by omega,hl⟩]
      · rw [if_neg hl,if_neg (by omega),List.getElem?_eq_none (by omega)]
    · rw [if_neg e]
      by_cases h:p≤q∧q<p+n∧q<W.length
      · rw [if_pos h,if_pos ⟨h.1,by omega,h.2.2⟩]
      · rw [if_neg h,if_neg (by omega)]
theorem slot_apart {kind n:Int} {s:ASt} (hok:AOk s) {i t:Nat} {l':List SRow} (c0:0≤cOf n) (c3:cOf n<4) (ha:sAlloc (cOf n) s.l=some (i,t,l')) {q:Nat} {k m:Int} (hq:s.c[q]?=some (.head k m)) (j x:Nat) (hj:j<m.toNat+1) (hx:x<(cWords (cOf n)).toNat):q+j≠i * 32+t * (cWords (cOf n)).toNat+x:=by
  have fa:=alloc_facts hok.rows ha
  obtain ⟨gW,gs,gc⟩:=ws_geo c0 c3
  have gt:=slot_fit fa.slot gs
  generalize hWd:(cWords (cOf n)).toNat=W at *
  obtain ⟨i',u,hp,hu,a,b,c,d,f⟩:=hok.head q k m hq
  intro e
  obtain ⟨_,uW,ut,_⟩:=used_geo hok.rows hu
  have hcl:i'=i→nW s.l i'=W:=by
    intro ei
    subst ei
    rcases fa.old with h | h
    · unfold nW; rw [h,hWd]
    · rw [none_used hok.rows h u] at hu; cases hu
  obtain ⟨a,b,_⟩:=slots_apart uW ut (show j<nW s.l i' by omega) gW gt hx hcl (by omega)
  subst a b
  rw [fa.new] at hu; cases hu
theorem RW.alloc {kind n:Int} {s:ASt} {W:List Int} (hok:AOk s) (h:RW s W) (hb:aBad kind n=false) {i t:Nat} {l':List SRow} (ha:sAlloc (cOf n) s.l=some (i,t,l')) {p:Nat} {s':ASt} (hs:aAlloc kind n s=some (p,s')) :
    p=i * 32+t * (cWords (cOf n)).toNat∧p+(cWords (cOf n)).toNat≤s.c.length∧RW s' ((zeros W p (cWords (cOf n)).toNat).set p (kind+16 * n)):=by
  obtain ⟨k1,k6,hf⟩:=aBad_no hb
  obtain ⟨n0,n32,c0,c3,nW'⟩:=cOf_fits hf
  have m:=alloc_more hok hb hs
  have fa:=alloc_facts hok.rows ha
  obtain ⟨gW,gs,gc⟩:=ws_geo c0 c3
  have gt:=slot_fit fa.slot gs
  have hp:p=i * 32+t * (cWords (cOf n)).toNat:=by
    unfold aAlloc at hs; rw [ha] at hs; injection hs with hs; injection hs with e1 _; exact e1.symm
  have hlt:=fa.lt
  have hL:=hok.len
  have hend:p+(cWords (cOf n)).toNat≤s.c.length:=by omega
  refine ⟨hp,hend,?_,?_⟩
  · rw [List.length_set,zeros_len,h.1,m.len]
  · intro q k x hq
    have hget:∀ y:Nat,((zeros W p (cWords (cOf n)).toNat).set p (kind+16 * n))[y]?=if y=p then some (kind+16 * n) else if p≤y∧y<p+(cWords (cOf n)).toNat then some 0 else W[y]?:=by
      intro y
      rw [List.getElem?_set,zeros_len,zeros_get]
      have hWl:=h.1
      by_cases e:y=p
      · rw [if_pos e.symm,if_pos e,if_pos (by omega)]
      · rw [if_neg (fun x=>e x.symm),if_neg e]
        by_cases e2:p≤y∧y<p+(cWords (cOf n)).toNat
        · rw [if_pos e2,if_pos ⟨e2.1,e2.2,by omega⟩]
        · rw [if_neg e2,if_neg (by omega)]
    rw [m.get] at hq
    split at hq
    · cases hq
    split at hq
    · rename_i h1 h2
      injection hq with hq; injection hq with e1 e2; subst e1 e2 h2
      refine ⟨by rw [hget,if_pos rfl],fun j hj=>⟨0,?_,?_⟩⟩
      · rw [m.get,if_pos (by omega)]
      · rw [hget,if_neg (by omega),if_pos (by omega)]
    · rename_i h1 h2
      obtain ⟨w1,w2⟩:=h.2 q k x hq
      have hap:∀ j y:Nat,j<x.toNat+1→y<(cWords (cOf n)).toNat→q+j≠p+y:=by
        intro j y hj hy; rw [hp]; exact slot_apart (kind:=kind) hok c0 c3 ha hq j y hj hy
      have hout:∀ j:Nat,j<x.toNat+1→¬ (p≤q+j∧q+j<p+(cWords (cOf n)).toNat):=by
        intro j hj hh; exact hap j (q+j - p) hj (by omega) (by omega)
      have hne:∀ j:Nat,j<x.toNat+1→q+j≠p:=by
        intro j hj e; exact hap j 0 hj (by omega) (by omega)
      refine ⟨?_,fun j hj=>?_⟩
      · rw [hget,if_neg h2,if_neg (by have:=hout 0 (by omega); simpa using this)]; exact w1
      · obtain ⟨z,z1,z2⟩:=w2 j hj
        have o:=hout (1+j) (by omega)
        have e:=hne (1+j) (by omega)
        refine ⟨z,?_,?_⟩
        · rw [m.get,if_neg (by omega),if_neg (by omega)]; exact z1
        · rw [hget,if_neg (by omega),if_neg (by omega)]; exact z2
theorem RW.free {s:ASt} {W:List Int} (hok:AOk s) (h:RW s W) (p:Int):RW (aFreeS p s) W:=by
  cases e:aHead s.c p with
  | none =>
    have:aFreeS p s=s:=by unfold aFreeS; rw [e]
    rw [this]; exact h
  | some kn =>
    obtain ⟨k,n⟩:=kn
    obtain ⟨p',rfl,hp⟩:=aHead_some e
    have m:=free_more hok hp
    refine ⟨h.1.trans m.len.symm,?_⟩
    intro q k' x hq
    rw [m.get] at hq
    split at hq
    · cases hq
    · rename_i h1
      obtain ⟨w1,w2⟩:=h.2 q k' x hq
      refine ⟨w1,fun j hj=>?_⟩
      obtain ⟨z,z1,z2⟩:=w2 j hj
      have hne:q≠p':=by rintro rfl; omega
      have:=m.apart q (1+j) k' x hq hne (by omega)
      exact ⟨z,by rw [m.get,if_neg (by omega)]; exact z1,z2⟩
theorem RW.store {s:ASt} {W:List Int} (hok:AOk s) (h:RW s W) {q j:Nat} {k n:Int} (hq:s.c[q]?=some (.head k n)) (hj:j<n.toNat) (w:Int):RW ⟨s.l,s.c.set (q+1+j) (.word w)⟩ (W.set (q+1+j) w):=by
  obtain ⟨x,hx⟩:=err_word hok hq hj
  have hlt:=(List.getElem?_eq_some_iff.1 hx).1
  have hWl:=h.1
  refine ⟨by simp [h.1],?_⟩
  intro p k' m hp
  simp only at hp ⊢
  rw [List.getElem?_set] at hp
  split at hp
  · first | cases hp | (split at hp <;> cases hp)
  · rename_i hne
    obtain ⟨w1,w2⟩:=h.2 p k' m hp
    refine ⟨by rw [List.getElem?_set,if_neg hne]; exact w1,fun y hy=>?_⟩
    obtain ⟨z,z1,z2⟩:=w2 y hy
    rw [List.getElem?_set,List.getElem?_set]
    by_cases e:q+1+j=p+1+y
    · rw [if_pos e,if_pos e,if_pos hlt,if_pos (by omega)]; exact ⟨w,rfl,rfl⟩
    · rw [if_neg e,if_neg e]; exact ⟨z,z1,z2⟩
theorem RW.new (n:Nat) (W:List Int) (hW:W.length=32 * n):RW (aNew n) W:=by
  refine ⟨by simp [aNew,hW],?_⟩
  intro p k m hp
  simp only [aNew,List.getElem?_replicate] at hp
  split at hp <;> simp at hp
end Go.Proofs.YtaojmbkmicjecaaGreat
namespace Go.Proofs.YtaojmbkmicjecaaGreat
open Go.RowKit
set_option linter.unusedVariables false
set_option linter.unusedSimpArgs false
def bV (l:List Bool):List Value:=l.map .bool
def BoolsP (v:Value) (L:List Bool):Piece where
  at' w F:=w.ownsRow 0 4 1 v L.length (bV L)∧F=v.ownBlock.toList
  keep:=by rintro w w' F G ⟨h,rfl⟩ k hd; exact ⟨k.own h (fun g hg=>hd _ (by simp [hg])),rfl⟩
  lt:=by rintro w F ⟨h,rfl⟩ i hi; simp at hi; exact own_lt h i hi
theorem St.litB {w0 w:World} {F0:List Nat} {ps:List Piece} (hs:St w0 F0 ps w) (L:List Bool) (hl:L.length≤maxLen) :
    St w0 F0 (BoolsP (.slice (some ⟨w.heap.size,0,none⟩) L.length L.length) L::ps) (w.alloc (.cells (bV L).toArray 4)) :=
  hs.push (p:=BoolsP _ L) ((Below.refl _ _).alloc (Nat.le_refl _) _) ⟨_,⟨⟨by simp [bV],.inr ⟨w.heap.size,L.length,_,rfl,Nat.zero_le _,Blk.new _ _ _,Nat.le_refl _,hl,by simp [bV],by rw [List.take_of_length_le (by simp [bV])]⟩⟩,rfl⟩,by simp [Value.ownBlock]⟩
theorem St.shapeB {w0:World} {F0:List Nat} {ps:List Piece} {wr:World} (h:St w0 F0 ps wr) (k:Nat) {v:Value} {L:List Bool} (hk:ps[k]?=some (BoolsP v L)):L.length≤maxLen∧∃ p c,v=.slice p L.length c∧(L.length=0 ∨ ∃ g,p=some ⟨g,0,none⟩):=by
  obtain ⟨G,h1⟩:=h.get k hk
  exact own_shape h1.1
def atB (L:List Bool) (i:Int):Bool:=L.getD i.toNat false
theorem St.atB {w0 w:World} {F0:List Nat} {ps:List Piece} {g n c:Nat} {L:List Bool} (h:St w0 F0 ps w) (k:Nat) (hk:ps[k]?=some (BoolsP (.slice (some ⟨g,0,none⟩) n c) L)) {i:Int} (hi:inR i L.length=true):w.cell? ⟨g,i.toNat,none⟩=some (.bool (atB L i)):=by
  obtain ⟨h0,h1⟩:=inR_spec hi
  obtain ⟨G,h2⟩:=h.get k hk
  have:=own_cell h2.1 (g:=g) rfl i.toNat (by simp [bV]; omega)
  rw [this]
  unfold Go.Proofs.YtaojmbkmicjecaaGreat.atB
  rw [List.getD_eq_getElem?_getD,List.getElem?_eq_getElem (by omega)]; simp [bV]
theorem run_loadB {P:Program} {ρ:Operand→Value} {o:Oper} {t:TypeId} {x:Operand} {p:Addr} {v:Value} (ho:o.op=.load t x) (hu:P.underlying t=some .bool) (hx:ρ x=.pointer (some p)) {w:World} (hc:w.cell? p=some v):(execOp ρ o).run P w=.ok (.value v) w:=by
  unfold execOp
  rw [ho]
  simp only [hx]
  apply run_v
  simp only [Instr.loadAt,Instr.sureAddr,loadVar,isAgg,underlying,program,load,Sem.run_bind,Sem.run_pure,Sem.run,Result.andThen,hu,bind,pure,Sem.bind,hc,Bool.false_eq_true,if_false]
end Go.Proofs.YtaojmbkmicjecaaGreat
namespace Go.Proofs.YtaojmbkmicjecaaGreat
open Go.RowKit
theorem u64_range (a:Int):0≤IntKind.u64.wrap a∧IntKind.u64.wrap a<18446744073709551616:=by
  have h:IntKind.u64.wrap a=a % 18446744073709551616:=by rfl
  rw [h]; omega
theorem u_mod (a:Int) (m:Nat) (h0:0<m):∃ n:Nat,n<m∧Int.tmod (IntKind.u64.wrap a) m=n:=by
  obtain ⟨h1,h2⟩:=u64_range a
  refine ⟨(Int.tmod (IntKind.u64.wrap a) m).toNat,?_,?_⟩
  · rw [Int.tmod_eq_emod_of_nonneg h1]
    have:=Int.emod_lt_of_pos (IntKind.u64.wrap a) (b:=(m:Int)) (by omega)
    have:=Int.emod_nonneg (IntKind.u64.wrap a) (b:=(m:Int)) (by omega)
    omega
  · rw [Int.tmod_eq_emod_of_nonneg h1]
    have:=Int.emod_nonneg (IntKind.u64.wrap a) (b:=(m:Int)) (by omega)
    omega
end Go.Proofs.YtaojmbkmicjecaaGreat
