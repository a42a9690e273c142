/- SepLit SepArena Fast RowOf QuietAdd SameStr Pure10 RefSpan Arr8 RefSpan2 -/
import Derived.Test.YtaojmbkmicjecaaGreatKMem
import Derived.Test.YtaojmbkmicjecaaGreatKSpan5
import Derived.Test.YtaojmbkmicjecaaGreatKPureArena
import Derived.Test.YtaojmbkmicjecaaGreatKPlain
import Derived.WalkKit
import Derived.Laws.AppendOwn
import Derived.Deep.QuietTactic
import Derived.Test.YtaojmbkmicjecaaGreatRows
import Derived.WalkSpells
import Derived.WalkLawsBesides
import Derived.BigQuiet
import Derived.Lib.Hide
namespace Go.Proofs.YtaojmbkmicjecaaGreat
open Go.RowKit
set_option linter.unusedVariables false
theorem St.lit {w0 w:World} {F0:List Nat} {ps:List Piece} (hs:St w0 F0 ps w) (L:List Int) (hl:L.length≤maxLen) :
    St w0 F0 (RowP (.slice (some ⟨w.heap.size,0,none⟩) L.length L.length) L::ps) (w.alloc (.cells (iV L).toArray 3)) :=
  hs.push (p:=RowP _ L) ((Below.refl _ _).alloc (Nat.le_refl _) _) ⟨_,⟨⟨by simp [iV],.inr ⟨w.heap.size,L.length,_,rfl,Nat.zero_le _,Blk.new _ _ _,Nat.le_refl _,hl,by simp [iV],by rw [List.take_of_length_le (by simp [iV])]⟩⟩,rfl⟩,by simp [Value.ownBlock]⟩
theorem St.lit3 {w0 w:World} {F0:List Nat} {ps:List Piece} (hs:St w0 F0 ps w) (x y z:Int) :
    St w0 F0 (RowP (.slice (some ⟨w.heap.size,0,none⟩) 3 3) [x,y,z]::ps) (w.alloc (.cells #[.int .i64 x,.int .i64 y,.int .i64 z] 3)):=hs.lit [x,y,z] (by unfold maxLen; simp)
end Go.Proofs.YtaojmbkmicjecaaGreat
namespace Go.Proofs.YtaojmbkmicjecaaGreat
open Go.RowKit
set_option linter.unusedVariables false
def ArenaP (b:Nat) (s:ASt):Piece where
  at' w F:=ArenaAt w b s F
  keep h k hd:=h.keep k hd
  lt h:=h.lt
section
variable {w0 w:World} {F0:List Nat} {ps:List Piece} {b:Nat} {s s':ASt}
theorem St.arena (h:St w0 F0 (ArenaP b s::ps) w):AOk s∧s.c.length=32 * s.l.length∧2≤s.l.length∧s.l.length≤128:=by
  obtain ⟨F,h1⟩:=h.head
  have hz:=ArenaAt.size h1
  obtain ⟨sb,g,Fs,hb,hs,hc,hF,hok,-⟩:=h1
  exact ⟨hok,hz⟩
theorem St.aDoes {fn:FuncId} {args:Array Value} {r:Ending} (h:St w0 F0 (ArenaP b s::ps) w) (hc:∀ F,ArenaAt w b s F→Calls Tryz.prog fn args w (ArenaDoes r b s' F w)) :
    Calls Tryz.prog fn args w fun e w'=>e=r∧St w0 F0 (ArenaP b s'::ps) w' :=
  h.call (p':=ArenaP b s') fun F h1=>(hc F h1).mono fun e w' ⟨he,a,k⟩=>⟨he,F,a,k,fun i hi=>.inl hi⟩
theorem a_Alloc (h:St w0 F0 (ArenaP b s::ps) w) (k n:Int) :
    Calls Tryz.prog 131 #[.pointer (some ⟨b,0,none⟩),.int .i64 k,.int .i64 n] w fun e w'=>e=.returned (aAllocV k n s)∧St w0 F0 (ArenaP b (aAllocS k n s)::ps) w':=h.aDoes fun _ h1=>arena_Alloc _ _ _ _ _ _ h1
theorem a_Store (h:St w0 F0 (ArenaP b s::ps) w) (a i x:Int) :
    Calls Tryz.prog 115 #[.pointer (some ⟨b,0,none⟩),.int .i64 a,.int .i64 i,.int .i64 x] w fun e w'=>e=.returned (.int .i64 (aErr a i s))∧St w0 F0 (ArenaP b (aStoreS a i x s)::ps) w':=h.aDoes fun _ h1=>arena_Store _ _ _ _ _ _ _ h1
theorem a_Load (h:St w0 F0 (ArenaP b s::ps) w) (a i:Int) :
    Calls Tryz.prog 75 #[.pointer (some ⟨b,0,none⟩),.int .i64 a,.int .i64 i] w fun e w'=>e=.returned (loadV s a i)∧St w0 F0 (ArenaP b s::ps) w':=h.ask fun _ h1=>arena_Load _ _ _ _ _ _ h1
theorem a_Kind (h:St w0 F0 (ArenaP b s::ps) w) (a:Int) :
    Calls Tryz.prog 92 #[.pointer (some ⟨b,0,none⟩),.int .i64 a] w fun e w'=>e=.returned (.int .i64 (aKind s.c a))∧St w0 F0 (ArenaP b s::ps) w':=h.ask fun _ h1=>arena_Kind _ _ _ _ _ h1
theorem a_Len (h:St w0 F0 (ArenaP b s::ps) w) (a:Int) :
    Calls Tryz.prog 114 #[.pointer (some ⟨b,0,none⟩),.int .i64 a] w fun e w'=>e=.returned (.int .i64 (aLen s.c a))∧St w0 F0 (ArenaP b s::ps) w':=h.ask fun _ h1=>arena_Len _ _ _ _ _ h1
theorem a_New {ps:List Piece} (h:St w0 F0 ps w) (n:Nat) (h2:2≤n) (h128:n≤128) :
    Calls Tryz.prog 109 #[.int .i64 n] w fun e w'=>∃ b,e=.returned (.tuple #[.pointer (some ⟨b,0,none⟩),.int .i64 0])∧St w0 F0 (ArenaP b (aNew n)::ps) w' :=
  (arena_New n h2 h128 w).mono fun e w' ⟨b,F,he,h1,h2,h3⟩=>⟨b,he,h.push h2.below ⟨F,h1,h3⟩⟩
end
end Go.Proofs.YtaojmbkmicjecaaGreat
namespace Go.Proofs.YtaojmbkmicjecaaGreat
set_option linter.unusedVariables false
set_option linter.unusedSimpArgs false
end Go.Proofs.YtaojmbkmicjecaaGreat
namespace Go.Proofs.YtaojmbkmicjecaaGreat
open Go.RowKit
def Row (w:World) (v:Value) (xs:List Value):Prop :=
  xs.length≤maxLen∧∃ (p:Option Addr) (cap:Nat),v=.slice p xs.length cap∧(xs.length=0 ∨ ∃ b o,p=some ⟨b,o,none⟩∧∀ i u,xs[i]?=some u→w.cell? ⟨b,o+i,none⟩=some u)
theorem Row.nil (w:World):Row w (.slice none 0 0) []:=⟨by simp,none,0,rfl,.inl rfl⟩
theorem Row.below {B:Nat} {w w':World} {v:Value} {xs:List Value} (h:Row w v xs) (hb:Below B w w') (hv:∀ b,v.ownBlock=some b→b<B):Row w' v xs:=by
  obtain ⟨hl,p,cap,rfl,h⟩:=h
  refine ⟨hl,p,cap,rfl,h.imp id ?_⟩
  rintro ⟨b,o,rfl,hc⟩
  exact ⟨b,o,rfl,fun i u hu=>(hb.cell (p:=⟨b,o+i,none⟩) (hv b rfl)).trans (hc i u hu)⟩
end Go.Proofs.YtaojmbkmicjecaaGreat
namespace Go.Proofs.YtaojmbkmicjecaaGreat
end Go.Proofs.YtaojmbkmicjecaaGreat
namespace Go.Proofs.YtaojmbkmicjecaaGreat
open Go.RowKit
end Go.Proofs.YtaojmbkmicjecaaGreat
namespace Go.Proofs.YtaojmbkmicjecaaGreat
def tChan:ByteArray:=⟨#[99,97,112,32,99,108,111,115,101,100,32,99,111,117,110,116,32,115,116,97,114,116,32,98,117,102,32,116,97,107,101,104,101,97,100,32,116,97,107,101,116,97,105,108,32,115,101,110,100,104,101,97,100,32,115,101,110,100,116,97,105,108]⟩
def tSudog:ByteArray:=⟨#[103,111,114,32,99,104,97,110,32,118,97,108,117,101,32,110,101,120,116,32,116,111,32,114,101,103,32,109,111,114,101]⟩
def tGor:ByteArray:=⟨#[105,100,32,115,116,97,116,117,115,32,112,99,32,97,32,98,32,99,32,100,32,101,32,102,32,115,117,100,111,103,115]⟩
def tBox:ByteArray:=⟨#[118,97,108,117,101,32,102,105,110,97,108]⟩
def tTimer:ByteArray:=⟨#[119,104,101,110,32,99,104,97,110]⟩
def tNone:ByteArray:=⟨#[]⟩
def rText (kind:Int):ByteArray:=if kind=1 then tChan else if kind=3 then tSudog else if kind=4 then tGor else if kind=5 then tBox else if kind=6 then tTimer else tNone
def spStep (p:List (List UInt8)×List UInt8) (c:UInt8):List (List UInt8)×List UInt8:=if c=32 then (p.1 ++ [p.2],[]) else (p.1,p.2 ++ [c])
def spl (l:List UInt8):List (List UInt8)×List UInt8:=l.foldl spStep ([],[])
theorem spl_snoc (l:List UInt8) (c:UInt8):spl (l ++ [c])=spStep (spl l) c:=by simp [spl]
theorem spl_len0 (l:List UInt8):∀ p,(l.foldl spStep p).1.length≤p.1.length+l.length:=by
  induction l with
  | nil=>intro p; simp
  | cons c l ih =>
    intro p
    have:=ih (spStep p c)
    simp only [List.foldl_cons,List.length_cons]
    have h:(spStep p c).1.length≤p.1.length+1:=by unfold spStep; split <;> simp
    omega
theorem spl_len (l:List UInt8):(spl l).1.length≤l.length:=by have:=spl_len0 l ([],[]); simpa [spl] using this
theorem spl_len1 (l:List UInt8):∀ p,(l.foldl spStep p).2.length≤p.2.length+l.length:=by
  induction l with
  | nil=>intro p; simp
  | cons c l ih =>
    intro p
    have:=ih (spStep p c)
    simp only [List.foldl_cons,List.length_cons]
    have h:(spStep p c).2.length≤p.2.length+1:=by unfold spStep; split <;> simp
    omega
theorem spl_len2 (l:List UInt8):(spl l).2.length≤l.length:=by have:=spl_len1 l ([],[]); simpa [spl] using this
theorem take_snoc (s:ByteArray) (k:Nat) (h:k<s.size):s.data.toList.take (k+1)=s.data.toList.take k ++ [s[k]]:=by
  rw [List.take_succ_eq_append_getElem (by simpa using h)]; rfl
def parts (l:List UInt8):List (List UInt8):=if (spl l).2=[] then [] else (spl l).1 ++ [(spl l).2]
def bs (l:List UInt8):ByteArray:=⟨l.toArray⟩
def rNames (kind:Int):List ByteArray:=(parts (rText kind).data.toList).map bs
def rNeed (kind n:Int):Int:=if kind=2 then (if n<0 ∨ 3<n then 0 else n) else if kind=1 then 9 else if kind=3 then 7 else if kind=4 then 10 else if kind=5 then 2 else if kind=6 then 2 else 0
def rKnown (kind n:Int):Bool:=if kind=2 then decide (0≤n∧n≤3) else decide (1≤kind∧kind≤6)
theorem rText_none {k:Int} (h:¬ (k=1 ∨ (3≤k∧k≤6))):rText k=tNone:=by unfold rText; repeat (rw [if_neg (by omega)])
theorem take_allB (s:ByteArray):s.data.toList.take s.size=s.data.toList:=List.take_of_length_le (by show s.data.toList.length≤s.data.size; simp)
theorem bs_nil:(bs []).toList.isEmpty=true:=by rw [ByteArray.toList_eq]; rfl
theorem bs_cons {l:List UInt8} (h:¬ l=[]):(bs l).toList.isEmpty=false:=by rw [ByteArray.toList_eq]; simpa [bs] using h
end Go.Proofs.YtaojmbkmicjecaaGreat
namespace Go.Proofs.YtaojmbkmicjecaaGreat
open Go.RowKit
def pad (r:SRow) (k:Nat):Bool:=r.2[k]? == some true
def RCls (w:World) (g cap:Nat) (l:List SRow):Prop :=
  ∃ cur,Blk w g 3 cur∧cur.size=cap∧l.length≤cap∧∀ i (h:i<l.length),cur[i]?=some (.int .i64 (l[i]'h).1)
def RSlots (w:World) (g cap:Nat) (l:List SRow):Prop :=
  ∃ cur,Blk w g 215 cur∧cur.size=cap * 8∧l.length≤cap∧∀ i (h:i<l.length) k,k<8→cur[i * 8+k]?=some (.bool (pad (l[i]'h) k))
def RSpanAt (w:World) (b:Nat) (l:List SRow) (F:List Nat):Prop :=
  ∃ g1 c1 g2 c2,Blk w b 198 #[.slice (some ⟨g1,0,none⟩) l.length c1,.slice (some ⟨g2,0,none⟩) l.length c2]∧RCls w g1 c1 l∧RSlots w g2 c2 l∧c1≤maxLen∧c2≤maxLen∧F=[b,g1,g2]∧l.length≤128∧(∀ r ∈ l,RowOk r)∧b≠g1∧b≠g2∧g1≠g2
theorem RCls.keep {w w':World} {g cap:Nat} {l:List SRow} {F:List Nat} (h:RCls w g cap l) (k:Keeps F w w') (hg:g ∉ F):RCls w' g cap l:=by
  obtain ⟨cur,hb,r⟩:=h
  exact ⟨cur,k.blk hb hg,r⟩
theorem RSlots.keep {w w':World} {g cap:Nat} {l:List SRow} {F:List Nat} (h:RSlots w g cap l) (k:Keeps F w w') (hg:g ∉ F):RSlots w' g cap l:=by
  obtain ⟨cur,hb,r⟩:=h
  exact ⟨cur,k.blk hb hg,r⟩
theorem RSpanAt.keep {w w':World} {b:Nat} {l:List SRow} {F G:List Nat} (h:RSpanAt w b l F) (k:Keeps G w w') (hd:∀ i ∈ F,i ∉ G):RSpanAt w' b l F:=by
  obtain ⟨g1,c1,g2,c2,h1,h2,h3,m1,m2,rfl,r⟩:=h
  exact ⟨g1,c1,g2,c2,k.blk h1 (hd _ (by simp)),h2.keep k (hd _ (by simp)),h3.keep k (hd _ (by simp)),m1,m2,rfl,r⟩
theorem RCls.cell {w:World} {g cap:Nat} {l:List SRow} (h:RCls w g cap l) (i:Nat) (hi:i<l.length):w.cell? ⟨g,i,none⟩=some (.int .i64 (l[i]'hi).1)∧w.frozen? ⟨g,i,none⟩=false:=by
  obtain ⟨cur,hb,hs,hl,hc⟩:=h
  exact ⟨(hb.cell _).trans (hc i hi),hb.free _⟩
theorem RSlots.cell {w:World} {g cap:Nat} {l:List SRow} (h:RSlots w g cap l) (i:Nat) (hi:i<l.length) (k:Nat) (hk:k<8):w.cell? ⟨g,i * 8+k,none⟩=some (.bool (pad (l[i]'hi) k))∧w.frozen? ⟨g,i * 8+k,none⟩=false:=by
  obtain ⟨cur,hb,hs,hl,hc⟩:=h
  exact ⟨(hb.cell _).trans (hc i hi k hk),hb.free _⟩
theorem RCls.lt {w:World} {g cap:Nat} {l:List SRow} (h:RCls w g cap l):g<w.heap.size:=by obtain ⟨cur,hb,_⟩:=h; exact hb.lt
theorem RSlots.lt {w:World} {g cap:Nat} {l:List SRow} (h:RSlots w g cap l):g<w.heap.size:=by obtain ⟨cur,hb,_⟩:=h; exact hb.lt
theorem RSpanAt.lt {w:World} {b:Nat} {l:List SRow} {F:List Nat} (h:RSpanAt w b l F):∀ i ∈ F,i<w.heap.size:=by
  obtain ⟨g1,c1,g2,c2,h1,h2,h3,m1,m2,rfl,r⟩:=h
  intro i hi
  simp at hi
  rcases hi with rfl | rfl | rfl
  · exact h1.lt
  · exact h2.lt
  · exact h3.lt
set_option maxHeartbeats 1000000 in
theorem rspan_Used (b:Nat) (l:List SRow) (F:List Nat) (a s:Int) (w:World) (hS:RSpanAt w b l F) :
    Calls Tryz.prog 163 #[.pointer (some ⟨b,0,none⟩),.int .i64 a,.int .i64 s] w fun e w'=>e=.returned (.bool (sUsed l a s))∧w=w':=by
  obtain ⟨g1,c1,g2,c2,hb,hr,hs,m1,m2,hF,hn,hok,hd⟩:=hS
  have e0:=hb.cell 0
  have e1:=hb.cell 1
  simp at e0 e1
  have HOK:=Lib.hid hok
  clear hF hr hd hok
  rcases int_cases a l.length with h | ⟨h0,h⟩ | ⟨i,rfl,hi⟩
  · have e:sUsed l a s=false:=by unfold sUsed; rw [decide_eq_false (by omega)]; rfl
    rw [e]; clear e hs
    go_enter Tryz.func163,Tryz.ntmps163
    go_wp2
    go_ret
    exact ⟨rfl,rfl⟩
  · have e:sUsed l a s=false:=by unfold sUsed; rw [List.getElem?_eq_none (by omega)]; simp
    rw [e]; clear e hs
    go_enter Tryz.func163,Tryz.ntmps163
    go_wp2
    go_ret
    exact ⟨rfl,rfl⟩
  · have i0:(0:Int)≤i:=by omega
    have i1:(i:Int)<l.length:=by omega
    rcases int_cases s 8 with h | ⟨h0,h⟩ | ⟨k,rfl,hk⟩
    · have e:sUsed l i s=false:=by unfold sUsed; rw [decide_eq_false (by omega)]; rfl
      rw [e]; clear e hs
      go_enter Tryz.func163,Tryz.ntmps163
      go_wp2
      go_ret
      exact ⟨rfl,rfl⟩
    · have e:sUsed l i s=false:=by
        cases hu:sUsed l i s with
        | false=>rfl
        | true =>
          obtain ⟨i',k,hi',hk,_,rfl,_⟩:=sUsed_some hu
          have:=(HOK.out _ (List.getElem_mem hi')).len
          omega
      rw [e]; clear e hs
      go_enter Tryz.func163,Tryz.ntmps163
      go_wp2
      go_ret
      exact ⟨rfl,rfl⟩
    · have e:sUsed l i k=pad (l[i]'hi) k:=by rw [sUsed_nat,List.getElem?_eq_getElem hi]; rfl
      rw [e]; clear e
      obtain ⟨d0,-⟩:=hs.cell i hi k hk
      generalize pad (l[i]'hi) k=c at *
      have k0:(0:Int)≤k:=by omega
      have k1:(k:Int)<8:=by omega
      clear hs
      go_enter Tryz.func163,Tryz.ntmps163
      go_wp2
      go_ret
      exact ⟨rfl,rfl⟩
end Go.Proofs.YtaojmbkmicjecaaGreat
namespace Go.Proofs.YtaojmbkmicjecaaGreat
open Go.RowKit
end Go.Proofs.YtaojmbkmicjecaaGreat
namespace Go.Proofs.YtaojmbkmicjecaaGreat
open Go.RowKit
theorem RSlots.set {w:World} {g cap:Nat} {l:List SRow} (h:RSlots w g cap l) (i:Nat) (hi:i<l.length) (k:Nat) (hk:k<8) (v:Bool) (r':SRow) (hp:∀ j,j<8→pad r' j=if j=k then v else pad (l[i]'hi) j) :
    RSlots (w.setCell ⟨g,i * 8+k,none⟩ (.bool v)) g cap (l.set i r'):=by
  obtain ⟨cur,hb,hs,hl,hc⟩:=h
  refine ⟨_,hb.set _ _,by simpa using hs,by simpa using hl,fun j hj x hx=>?_⟩
  simp at hj
  rw [Array.getElem?_setIfInBounds]
  by_cases e:j=i
  · subst e
    by_cases ek:x=k
    · subst ek
      rw [if_pos rfl,if_pos (by omega)]
      simp only [List.getElem_set_self]
      rw [hp x hx,if_pos rfl]
    · rw [if_neg (by omega)]
      simp only [List.getElem_set_self]
      rw [hp x hx,if_neg ek]
      exact hc j hi x hx
  · rw [if_neg (by omega)]
    simp only [List.getElem_set_ne (show i≠j by omega)]
    exact hc j hj x hx
theorem RSlots.same {w:World} {g cap:Nat} {l:List SRow} (h:RSlots w g cap l) (i:Nat) (hi:i<l.length) (r':SRow) (hp:∀ j,j<8→pad r' j=pad (l[i]'hi) j):RSlots w g cap (l.set i r'):=by
  obtain ⟨cur,hb,hs,hl,hc⟩:=h
  refine ⟨cur,hb,hs,by simpa using hl,fun j hj x hx=>?_⟩
  simp at hj
  by_cases e:j=i
  · subst e
    simp only [List.getElem_set_self]
    rw [hp x hx]; exact hc j hi x hx
  · simp only [List.getElem_set_ne (show i≠j by omega)]
    exact hc j hj x hx
theorem RCls.set {w:World} {g cap:Nat} {l:List SRow} (h:RCls w g cap l) (i:Nat) (hi:i<l.length) (r':SRow):RCls (w.setCell ⟨g,i,none⟩ (.int .i64 r'.1)) g cap (l.set i r'):=by
  obtain ⟨cur,hb,hs,hl,hc⟩:=h
  refine ⟨_,hb.set _ _,by simpa using hs,by simpa using hl,fun j hj=>?_⟩
  simp at hj
  rw [Array.getElem?_setIfInBounds]
  by_cases e:j=i
  · subst e
    rw [if_pos rfl,if_pos (by omega)]; simp
  · rw [if_neg (by omega)]
    simp only [List.getElem_set_ne (show i≠j by omega)]
    exact hc j hj
theorem RCls.same {w:World} {g cap:Nat} {l:List SRow} (h:RCls w g cap l) (i:Nat) (hi:i<l.length) (r':SRow) (hp:r'.1=(l[i]'hi).1):RCls w g cap (l.set i r'):=by
  obtain ⟨cur,hb,hs,hl,hc⟩:=h
  refine ⟨cur,hb,hs,by simpa using hl,fun j hj=>?_⟩
  simp at hj
  by_cases e:j=i
  · subst e
    simp only [List.getElem_set_self]
    rw [hp]; exact hc j hi
  · simp only [List.getElem_set_ne (show i≠j by omega)]
    exact hc j hj
theorem pad_set (r:SRow) (k:Nat) (hk:k<r.2.length) (v:Bool) (j:Nat):pad (r.1,r.2.set k v) j=if j=k then v else pad r j:=by
  unfold pad
  simp only
  rw [List.getElem?_set]
  by_cases e:j=k
  · subst e; rw [if_pos rfl,if_pos hk,if_pos rfl]; cases v <;> rfl
  · rw [if_neg (fun x=>e x.symm),if_neg e]
theorem pad_none (j:Nat):pad noRow j=false:=rfl
def RSpanDoes (r:Ending) (b:Nat) (l':List SRow) (F:List Nat) (w:World) (e:Ending) (w':World):Prop:=e=r∧RSpanAt w' b l' F∧Keeps F w w'
end Go.Proofs.YtaojmbkmicjecaaGreat
