/- RefSpan -/
import Derived.Test.YtffnjpapggidlaaKSpan5
namespace Go.Proofs.Ytffnjpapggidlaa
open Go.RowKit
def pad (r:SRow) (k:Nat):Bool:=r.2[k]? == some true
def RCls (w:World) (g cap:Nat) (l:List SRow):Prop :=
  ∃ cur,Blk w g 3 cur∧cur.size=cap∧l.length≤cap∧∀ i (h:i<l.length),cur[i]?=some (.int .i64 (l[i]'h).1)
def RSlots (w:World) (g cap:Nat) (l:List SRow):Prop :=
  ∃ cur,Blk w g 105 cur∧cur.size=cap * 8∧l.length≤cap∧∀ i (h:i<l.length) k,k<8→cur[i * 8+k]?=some (.bool (pad (l[i]'h) k))
def RSpanAt (w:World) (b:Nat) (l:List SRow) (F:List Nat):Prop :=
  ∃ g1 c1 g2 c2,Blk w b 102 #[.slice (some ⟨g1,0,none⟩) l.length c1,.slice (some ⟨g2,0,none⟩) l.length c2]∧RCls w g1 c1 l∧RSlots w g2 c2 l∧c1≤maxLen∧c2≤maxLen∧F=[b,g1,g2]∧l.length≤128∧(∀ r ∈ l,RowOk r)∧b≠g1∧b≠g2∧g1≠g2
theorem RCls.keep {w w':World} {g cap:Nat} {l:List SRow} {F:List Nat} (h:RCls w g cap l) (k:Keeps F w w') (hg:g ∉ F):RCls w' g cap l:=by
  obtain ⟨cur,hb,r⟩:=h
  exact ⟨cur,k.blk hb hg,r⟩
theorem RSlots.keep {w w':World} {g cap:Nat} {l:List SRow} {F:List Nat} (h:RSlots w g cap l) (k:Keeps F w w') (hg:g ∉ F):RSlots w' g cap l:=by
  obtain ⟨cur,hb,r⟩:=h
  exact ⟨cur,k.blk hb hg,r⟩
theorem RSpanAt.keep {w w':World} {b:Nat} {l:List SRow} {F G:List Nat} (h:RSpanAt w b l F) (k:Keeps G w w') (hd:∀ i ∈ F,i ∉ G):RSpanAt w' b l F:=by
  obtain ⟨g1,c1,g2,c2,h1,h2,h3,m1,m2,rfl,r⟩:=h
  exact ⟨g1,c1,g2,c2,k.blk h1 (hd _ (by simp)),h2.keep k (hd _ (by simp)),h3.keep k (hd _ (by simp)),m1,m2,rfl,r⟩
theorem RCls.cell {w:World} {g cap:Nat} {l:List SRow} (h:RCls w g cap l) (i:Nat) (hi:i<l.length):w.cell? ⟨g,i,none⟩=some (.int .i64 (l[i]'hi).1)∧w.frozen? ⟨g,i,none⟩=false:=by
  obtain ⟨cur,hb,hs,hl,hc⟩:=h
  exact ⟨(hb.cell _).trans (hc i hi),hb.free _⟩
theorem RSlots.cell {w:World} {g cap:Nat} {l:List SRow} (h:RSlots w g cap l) (i:Nat) (hi:i<l.length) (k:Nat) (hk:k<8):w.cell? ⟨g,i * 8+k,none⟩=some (.bool (pad (l[i]'hi) k))∧w.frozen? ⟨g,i * 8+k,none⟩=false:=by
  obtain ⟨cur,hb,hs,hl,hc⟩:=h
  exact ⟨(hb.cell _).trans (hc i hi k hk),hb.free _⟩
theorem RCls.lt {w:World} {g cap:Nat} {l:List SRow} (h:RCls w g cap l):g<w.heap.size:=by obtain ⟨cur,hb,_⟩:=h; exact hb.lt
theorem RSlots.lt {w:World} {g cap:Nat} {l:List SRow} (h:RSlots w g cap l):g<w.heap.size:=by obtain ⟨cur,hb,_⟩:=h; exact hb.lt
theorem RSpanAt.lt {w:World} {b:Nat} {l:List SRow} {F:List Nat} (h:RSpanAt w b l F):∀ i ∈ F,i<w.heap.size:=by
  obtain ⟨g1,c1,g2,c2,h1,h2,h3,m1,m2,rfl,r⟩:=h
  intro i hi
  simp at hi
  rcases hi with rfl | rfl | rfl
  · exact h1.lt
  · exact h2.lt
  · exact h3.lt
set_option maxHeartbeats 1000000 in
theorem rspan_Used (b:Nat) (l:List SRow) (F:List Nat) (a s:Int) (w:World) (hS:RSpanAt w b l F) :
    Calls Try.prog 87 #[.pointer (some ⟨b,0,none⟩),.int .i64 a,.int .i64 s] w fun e w'=>e=.returned (.bool (sUsed l a s))∧w=w':=by
  obtain ⟨g1,c1,g2,c2,hb,hr,hs,m1,m2,hF,hn,hok,hd⟩:=hS
  have e0:=hb.cell 0
  have e1:=hb.cell 1
  simp at e0 e1
  have HOK:=Lib.hid hok
  clear hF hr hd hok
  rcases int_cases a l.length with h | ⟨h0,h⟩ | ⟨i,rfl,hi⟩
  · have e:sUsed l a s=false:=by unfold sUsed; rw [decide_eq_false (by omega)]; rfl
    rw [e]; clear e hs
    go_enter Try.func87,Try.ntmps87
    go_wp2
    go_ret
    exact ⟨rfl,rfl⟩
  · have e:sUsed l a s=false:=by unfold sUsed; rw [List.getElem?_eq_none (by omega)]; simp
    rw [e]; clear e hs
    go_enter Try.func87,Try.ntmps87
    go_wp2
    go_ret
    exact ⟨rfl,rfl⟩
  · have i0:(0:Int)≤i:=by omega
    have i1:(i:Int)<l.length:=by omega
    rcases int_cases s 8 with h | ⟨h0,h⟩ | ⟨k,rfl,hk⟩
    · have e:sUsed l i s=false:=by unfold sUsed; rw [decide_eq_false (by omega)]; rfl
      rw [e]; clear e hs
      go_enter Try.func87,Try.ntmps87
      go_wp2
      go_ret
      exact ⟨rfl,rfl⟩
    · have e:sUsed l i s=false:=by
        cases hu:sUsed l i s with
        | false=>rfl
        | true =>
          obtain ⟨i',k,hi',hk,_,rfl,_⟩:=sUsed_some hu
          have:=(HOK.out _ (List.getElem_mem hi')).len
          omega
      rw [e]; clear e hs
      go_enter Try.func87,Try.ntmps87
      go_wp2
      go_ret
      exact ⟨rfl,rfl⟩
    · have e:sUsed l i k=pad (l[i]'hi) k:=by rw [sUsed_nat,List.getElem?_eq_getElem hi]; rfl
      rw [e]; clear e
      obtain ⟨d0,-⟩:=hs.cell i hi k hk
      generalize pad (l[i]'hi) k=c at *
      have k0:(0:Int)≤k:=by omega
      have k1:(k:Int)<8:=by omega
      clear hs
      go_enter Try.func87,Try.ntmps87
      go_wp2
      go_ret
      exact ⟨rfl,rfl⟩
end Go.Proofs.Ytffnjpapggidlaa
