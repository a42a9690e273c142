/- Span Span2 Span3 Span4 Repeat SepMap -/
import Derived.Test.YtaojmbkmicjecaaGreatKPlain
import Derived.Test.YtaojmbkmicjecaaGreatKMem
import Derived.Test.YtaojmbkmicjecaaGreatKClass
import Derived.Test.YtaojmbkmicjecaaGreatRows
import Derived.RegionTactic
import Derived.ChangeAlike
import Derived.BigRegion
import Derived.Deep.RegionHeld3
import Derived.Maps.OwnOps
import Derived.Maps.OwnSet
import Derived.Maps.Ext
namespace Go.Proofs.YtaojmbkmicjecaaGreat
open Go.RowKit
theorem next_mark (w:World) (m:List Bool) (i:Nat) (h:i<m.length) (ty:TypeId) :
    (Instr.next (.pointer (some ⟨w.heap.size,0,none⟩)) true ty).run Tryz.prog (w.iter (marks m) i)=.ok (.tuple #[.bool true,.int .i64 i,.int .i32 (if m[i] then 120 else 45)]) (w.iter (marks m) (i+1)):=by
  rw [run_next_ascii w (marks m) i ty (by rw [marks_size]; exact h) (marks_ascii m i _),marks_get m i h]
  cases m[i] <;> rfl
theorem next_marks_end (w:World) (m:List Bool) (i:Nat) (h:¬ i<m.length) (ty:TypeId) :
    (Instr.next (.pointer (some ⟨w.heap.size,0,none⟩)) true ty).run Tryz.prog (w.iter (marks m) i)=.ok (.tuple #[.bool false]) (w.iter (marks m) i) :=
  run_next_end w (marks m) i ty (by rw [marks_size]; exact h)
theorem row_box (c:Int) (m:List Bool) (w:World):∃ W,w.alloc (.cells #[.int .i64 c,.string (marks m)] 214)=W∧Below w.heap.size w W∧W.cell? ⟨w.heap.size,1,none⟩=some (.string (marks m)) :=
  ⟨_,rfl,(Below.refl _ _).alloc (Nat.le_refl _) _,by simp⟩
set_option maxRecDepth 100000 in
theorem row_first (c:Int) (m:List Bool) (hm:m.length≤1000) (w:World) :
    Calls Tryz.prog 175 #[.agg #[.int .i64 c,.string (marks m)],.int .i32 45] w fun e w'=>e=.returned (.tuple #[.int .i64 (((firstFree m).getD 0:Nat):Int),.bool (firstFree m).isSome])∧Below w.heap.size w w':=by
  obtain ⟨W,hW,hB,hc⟩:=row_box c m w
  have HB:=Lib.hid hB
  clear hB
  go_enter Tryz.func175,Tryz.ntmps175
  go_wp2
  go_loopw [] (fun w'=>∃ pos:Nat,pos≤m.length∧w'=W.iter (marks m) pos∧Hid (∀ j (h:j<m.length),j<pos→m[j]=true)) (fun w'=>m.length - w'.iterPos W.heap.size)
  case atStart=>exact ⟨0,by omega,rfl,fun j h hj=>by omega⟩
  case round =>
    obtain ⟨pos,hp,rfl,hall⟩:=hrel
    clear hW hc
    by_cases hlt:pos<m.length
    · have hnx:=next_mark W m pos hlt
      cases hb:m[pos] with
      | true =>
        simp only [hb,if_true] at hnx
        have HBt:=Lib.hid hb
        clear hb
        go_wp2
        go_roundw
        case rel =>
          refine ⟨pos+1,by omega,rfl,fun j h hj=>?_⟩
          by_cases e:j=pos
          · subst e; exact HBt.out
          · exact hall.out j h (by omega)
        case measure=>simp; omega
      | false =>
        simp only [hb] at hnx
        have HBt:=Lib.hid hb
        clear hb
        have hff:firstFree m=some pos:=by
          unfold firstFree
          rw [List.findIdx?_eq_some_iff_getElem]
          exact ⟨hlt,by rw [HBt.out]; rfl,fun j hj=>by rw [hall.out j (by omega) hj]; simp⟩
        have HF:=Lib.hid hff
        clear hff
        go_wp2
        go_ret2
        exact ⟨ret_ib (by rw [HF.out]; rfl) (by rw [HF.out]; rfl),HB.out.trans ((iter_belowM _ _ _).mono HB.out.size)⟩
    · have hnx:=next_marks_end (w:=W) m pos hlt
      have hff:firstFree m=none:=by
        unfold firstFree
        rw [List.findIdx?_eq_none_iff]
        intro x hx
        obtain ⟨j,hj,rfl⟩:=List.mem_iff_getElem.1 hx
        rw [hall.out j hj (by omega)]; rfl
      have HF:=Lib.hid hff
      clear hff
      go_wp2
      go_ret2
      exact ⟨ret_ib (by rw [HF.out]; rfl) (by rw [HF.out]; rfl),HB.out.trans ((iter_belowM _ _ _).mono HB.out.size)⟩
def RowsAt (w:World) (g cap:Nat) (l:List SRow):Prop :=
  ∃ cur,Blk w g 214 cur∧cur.size=cap * 2∧l.length≤cap∧∀ i (h:i<l.length),cur[i * 2]?=some (.int .i64 (l[i]'h).1)∧cur[i * 2+1]?=some (.string (marks (l[i]'h).2))
theorem RowsAt.cells {w:World} {g cap:Nat} {l:List SRow} (h:RowsAt w g cap l) (i:Nat) (hi:i<l.length) :
    w.cell? ⟨g,i * 2,none⟩=some (.int .i64 (l[i]'hi).1)∧w.cell? ⟨g,i * 2+1,none⟩=some (.string (marks (l[i]'hi).2))∧w.frozen? ⟨g,i * 2,none⟩=false∧w.frozen? ⟨g,i * 2+1,none⟩=false:=by
  obtain ⟨cur,hb,hs,hl,hc⟩:=h
  obtain ⟨a,b⟩:=hc i hi
  exact ⟨(hb.cell _).trans a,(hb.cell _).trans b,hb.free _,hb.free _⟩
theorem RowsAt.lt {w:World} {g cap:Nat} {l:List SRow} (h:RowsAt w g cap l):g<w.heap.size:=by obtain ⟨cur,hb,_⟩:=h; exact hb.lt
theorem RowsAt.keep {w w':World} {g cap:Nat} {l:List SRow} {F:List Nat} (h:RowsAt w g cap l) (k:Keeps F w w') (hg:g ∉ F):RowsAt w' g cap l:=by
  obtain ⟨cur,hb,r⟩:=h
  exact ⟨cur,k.blk hb hg,r⟩
theorem RowsAt.set_marks {w:World} {g cap:Nat} {l:List SRow} (h:RowsAt w g cap l) (i:Nat) (hi:i<l.length) (m:List Bool):RowsAt (w.setCell ⟨g,i * 2+1,none⟩ (.string (marks m))) g cap (l.set i ((l[i]'hi).1,m)):=by
  obtain ⟨cur,hb,hs,hl,hc⟩:=h
  refine ⟨_,hb.set _ _,by simpa using hs,by simpa using hl,fun j hj=>?_⟩
  simp at hj
  obtain ⟨a,b⟩:=hc j hj
  by_cases e:j=i
  · subst e
    refine ⟨?_,?_⟩
    · rw [Array.getElem?_setIfInBounds,if_neg (by omega)]; simpa using a
    · rw [Array.getElem?_setIfInBounds,if_pos rfl,if_pos (by omega)]; simp
  · refine ⟨?_,?_⟩
    · rw [Array.getElem?_setIfInBounds,if_neg (by omega),List.getElem_set_ne (by omega)]; exact a
    · rw [Array.getElem?_setIfInBounds,if_neg (by omega),List.getElem_set_ne (by omega)]; exact b
theorem RowsAt.set_row {w:World} {g cap:Nat} {l:List SRow} (h:RowsAt w g cap l) (i:Nat) (hi:i<l.length) (r:SRow):RowsAt ((w.setCell ⟨g,i * 2,none⟩ (.int .i64 r.1)).setCell ⟨g,i * 2+1,none⟩ (.string (marks r.2))) g cap (l.set i r):=by
  obtain ⟨cur,hb,hs,hl,hc⟩:=h
  refine ⟨_,(hb.set _ _).set _ _,by simpa using hs,by simpa using hl,fun j hj=>?_⟩
  simp at hj
  obtain ⟨a,b⟩:=hc j hj
  by_cases e:j=i
  · subst e
    refine ⟨?_,?_⟩
    · rw [Array.getElem?_setIfInBounds,if_neg (by omega),Array.getElem?_setIfInBounds,if_pos rfl,if_pos (by omega)]; simp
    · rw [Array.getElem?_setIfInBounds,if_pos rfl,if_pos (by simp; omega)]; simp
  · refine ⟨?_,?_⟩
    · rw [Array.getElem?_setIfInBounds,if_neg (by omega),Array.getElem?_setIfInBounds,if_neg (by omega),List.getElem_set_ne (by omega)]; exact a
    · rw [Array.getElem?_setIfInBounds,if_neg (by omega),Array.getElem?_setIfInBounds,if_neg (by omega),List.getElem_set_ne (by omega)]; exact b
set_option maxRecDepth 100000 in
theorem row_turn (g o:Nat) (m:List Bool) (k:Nat) (b:Bool) (hm:m.length≤1000) (hk:k<m.length) (w:World) (hc:w.cell? ⟨g,o+1,none⟩=some (.string (marks m))) (hf:w.frozen? ⟨g,o+1,none⟩=false) :
    Calls Tryz.prog 176 #[.pointer (some ⟨g,o,none⟩),.int .i64 k,.int .i32 (if b then 120 else 45)] w fun e w'=>e=.returned (.tuple #[])∧∃ n,w'=(w.setCell ⟨g,o+1,none⟩ (.string (marks (m.set k b)))).drewN n:=by
  have hz:=marks_size m
  have h1:(k:Int)≤(marks m).size:=by omega
  have h2:(k:Int)+1≤(marks m).size:=by omega
  have hms:=marks_set m k b hk
  have HM:=Lib.hid hms
  have HZ:=Lib.hid hz
  clear hz hms
  have e1:min k (marks m).size+1≤1001:=by have:=HZ.out; omega
  have e2:min k (marks m).size+1+((marks m).size - (k+1))≤2001:=by have:=HZ.out; omega
  cases b with
  | true =>
    have he:Utf8.encode 120=⟨#[120]⟩:=by decide +kernel
    go_enter Tryz.func176,Tryz.ntmps176
    go_wp2
    go_region
    go_wp2
    go_end0
    exact ⟨rfl,1,by rw [← HM.out]; rfl⟩
  | false =>
    have he:Utf8.encode 45=⟨#[45]⟩:=by decide +kernel
    go_enter Tryz.func176,Tryz.ntmps176
    go_wp2
    go_region
    go_wp2
    go_end0
    exact ⟨rfl,1,by rw [← HM.out]; rfl⟩
def SpanAt (w:World) (b:Nat) (l:List SRow) (F:List Nat):Prop :=
  ∃ g cap,Blk w b 212 #[.slice (some ⟨g,0,none⟩) l.length cap]∧RowsAt w g cap l∧cap≤maxLen∧F=[b,g]∧2≤l.length∧l.length≤128∧∀ r ∈ l,RowOk r
theorem SpanAt.keep {w w':World} {b:Nat} {l:List SRow} {F G:List Nat} (h:SpanAt w b l F) (k:Keeps G w w') (hd:∀ i ∈ F,i ∉ G):SpanAt w' b l F:=by
  obtain ⟨g,cap,h1,h2,h3,rfl,r⟩:=h
  exact ⟨g,cap,k.blk h1 (hd _ (by simp)),h2.keep k (hd _ (by simp)),h3,rfl,r⟩
theorem SpanAt.lt {w:World} {b:Nat} {l:List SRow} {F:List Nat} (h:SpanAt w b l F):∀ i ∈ F,i<w.heap.size:=by
  obtain ⟨g,cap,h1,h2,h3,rfl,r⟩:=h
  intro i hi
  simp at hi
  rcases hi with rfl | rfl
  · exact h1.lt
  · exact h2.lt
theorem SpanAt.ne {w:World} {b:Nat} {l:List SRow} {g cap:Nat} (h1:Blk w b 212 #[.slice (some ⟨g,0,none⟩) l.length cap]) (h2:RowsAt w g cap l):g≠b:=by
  obtain ⟨cur,hb,_⟩:=h2
  rintro rfl
  unfold Blk at h1 hb
  rw [h1] at hb
  injection hb with hb
  injection hb with _ e2 _
  exact absurd e2 (by decide)
end Go.Proofs.YtaojmbkmicjecaaGreat
namespace Go.Proofs.YtaojmbkmicjecaaGreat
open Go.RowKit
theorem int_cases (a:Int) (n:Nat):a<0 ∨ (0≤a∧(n:Int)≤a) ∨ ∃ i:Nat,a=i∧i<n:=by
  by_cases h:a<0
  · exact .inl h
  · by_cases h2:(n:Int)≤a
    · exact .inr (.inl ⟨by omega,h2⟩)
    · exact .inr (.inr ⟨a.toNat,by omega,by omega⟩)
theorem RowOk.len {r:SRow} (h:RowOk r):r.2.length≤8:=by
  rcases h with ⟨_,h⟩ | ⟨h0,h3,h,_⟩
  · rw [h]; simp
  · unfold cSlots at h; repeat' split at h
    all_goals omega
end Go.Proofs.YtaojmbkmicjecaaGreat
namespace Go.Proofs.YtaojmbkmicjecaaGreat
open Go.RowKit
theorem cWords_bd (c:Int):0≤cWords c∧cWords c≤32:=by
  unfold cWords
  (repeat' split) <;> omega
end Go.Proofs.YtaojmbkmicjecaaGreat
namespace Go.Proofs.YtaojmbkmicjecaaGreat
open Go.RowKit
theorem sUsed_some {l:List SRow} {a s:Int} (h:sUsed l a s=true):∃ (i k:Nat) (hi:i<l.length) (hk:k<(l[i]'hi).2.length),a=i∧s=k∧((l[i]'hi).2[k]'hk)=true∧sFree l a s=l.set i (freeRow (l[i]'hi) k):=by
  have h0:=h
  unfold sUsed at h
  rw [Bool.and_eq_true,decide_eq_true_eq] at h
  obtain ⟨⟨ha,hs⟩,h⟩:=h
  obtain ⟨i,rfl⟩:=Int.eq_ofNat_of_zero_le ha
  obtain ⟨k,rfl⟩:=Int.eq_ofNat_of_zero_le hs
  simp only [Int.toNat_natCast] at h
  cases hi:l[i]? with
  | none=>rw [hi] at h; cases h
  | some r =>
    rw [hi] at h
    obtain ⟨hil,rfl⟩:=List.getElem?_eq_some_iff.1 hi
    simp only [beq_iff_eq] at h
    obtain ⟨hk,hv⟩:=List.getElem?_eq_some_iff.1 h
    refine ⟨i,k,hil,hk,rfl,rfl,hv,?_⟩
    unfold sFree
    rw [if_pos h0]
    simp only [Int.toNat_natCast]
    rw [hi]; rfl
theorem freeRow_ok {r:SRow} (h:RowOk r) (k:Nat) (hk:k<r.2.length):RowOk (freeRow r k):=by
  unfold freeRow
  split
  · exact .inl ⟨rfl,rfl⟩
  · rename_i hu
    rcases h with ⟨_,h⟩ | ⟨h0,h3,hl,_⟩
    · rw [h] at hk; simp at hk
    · refine .inr ⟨h0,h3,by simpa using hl,?_⟩
      unfold used at hu
      exact List.count_pos_iff.1 (Nat.pos_of_ne_zero hu)
theorem set_ok {l:List SRow} (h:∀ r ∈ l,RowOk r) (i:Nat) {r:SRow} (hr:RowOk r):∀ x ∈ l.set i r,RowOk x:=by
  intro x hx
  rcases List.mem_or_eq_of_mem_set hx with h1 | rfl
  · exact h x h1
  · exact hr
def SpanDoes (r:Ending) (b:Nat) (l':List SRow) (F:List Nat) (w:World) (e:Ending) (w':World):Prop:=e=r∧SpanAt w' b l' F∧Keeps F w w'
end Go.Proofs.YtaojmbkmicjecaaGreat
namespace Go.Proofs.YtaojmbkmicjecaaGreat
open Go.RowKit
theorem sl_prefix (s:ByteArray) (b:Bool) (hs:1≤s.size) (h:((s.extract 0 1).toList == [45])=b) (w:World) :
    Calls Tryz.prog 191 #[.string s,.string ⟨#[45]⟩] w fun e w'=>e=.returned (.bool b)∧w=w':=by
  go_enter Tryz.func191,Tryz.ntmps191
  go_wp2
  go_ret
  exact ⟨rfl,rfl⟩
theorem st_prefix (s:ByteArray) (b:Bool) (hs:1≤s.size) (h:((s.extract 0 1).toList == [45])=b) (w:World) :
    Calls Tryz.prog 184 #[.string s,.string ⟨#[45]⟩] w fun e w'=>e=.returned (.bool b)∧w=w':=by
  go_enter Tryz.func184,Tryz.ntmps184
  go_wp2_with (go_at_call 191; refine (sl_prefix s b hs h _).mono ?_; rintro e w' ⟨rfl,rfl⟩)
  go_ret
  exact ⟨rfl,rfl⟩
theorem mul_8 (w:World):Calls Tryz.prog 183 #[.int .u64 1,.int .u64 8] w fun e w'=>e=.returned (.tuple #[.int .u64 0,.int .u64 8])∧w=w':=by
  have b0:bits BinOp.and IntKind.u64 0 4294967295=0:=by decide +kernel
  have b1:bits BinOp.and IntKind.u64 1 4294967295=1:=by decide +kernel
  have b8:bits BinOp.and IntKind.u64 8 4294967295=8:=by decide +kernel
  go_enter Tryz.func183,Tryz.ntmps183
  go_wp2
  go_ret2
  exact ⟨rfl,rfl⟩
set_option maxRecDepth 100000 in
set_option maxHeartbeats 1000000 in
theorem repeat_8 (w:World) :
    Calls Tryz.prog 177 #[.string ⟨#[45]⟩,.int .i64 8] w fun e w'=>e=.returned (.string (marks (List.replicate 8 false)))∧Below w.heap.size w w':=by
  go_enter Tryz.func177,Tryz.ntmps177
  go_wp2_with (go_at_call 183; refine (mul_8 _).mono ?_; rintro e w' ⟨rfl,rfl⟩)
  refine (st_prefix _ false ?_ ?_ _).mono ?_
  · decide
  · rw [ByteArray.toList_eq]; decide +kernel
  rintro e w' ⟨rfl,rfl⟩
  go_wp2_with fail
  refine (st_prefix _ true ?_ ?_ _).mono ?_
  · decide
  · rw [ByteArray.toList_eq]; decide +kernel
  rintro e w' ⟨rfl,rfl⟩
  go_wp2
  go_ret
  exact ⟨congrArg (fun s=>Ending.returned (Value.string s)) (by decide +kernel),Below.refl _ _⟩
theorem mul_4 (w:World):Calls Tryz.prog 183 #[.int .u64 1,.int .u64 4] w fun e w'=>e=.returned (.tuple #[.int .u64 0,.int .u64 4])∧w=w':=by
  have b0:bits BinOp.and IntKind.u64 0 4294967295=0:=by decide +kernel
  have b1:bits BinOp.and IntKind.u64 1 4294967295=1:=by decide +kernel
  have b8:bits BinOp.and IntKind.u64 4 4294967295=4:=by decide +kernel
  go_enter Tryz.func183,Tryz.ntmps183
  go_wp2
  go_ret2
  exact ⟨rfl,rfl⟩
set_option maxRecDepth 100000 in
set_option maxHeartbeats 1000000 in
theorem repeat_4 (w:World) :
    Calls Tryz.prog 177 #[.string ⟨#[45]⟩,.int .i64 4] w fun e w'=>e=.returned (.string (marks (List.replicate 4 false)))∧Below w.heap.size w w':=by
  go_enter Tryz.func177,Tryz.ntmps177
  go_wp2_with (go_at_call 183; refine (mul_4 _).mono ?_; rintro e w' ⟨rfl,rfl⟩)
  refine (st_prefix _ false ?_ ?_ _).mono ?_
  · decide
  · rw [ByteArray.toList_eq]; decide +kernel
  rintro e w' ⟨rfl,rfl⟩
  go_wp2_with fail
  refine (st_prefix _ true ?_ ?_ _).mono ?_
  · decide
  · rw [ByteArray.toList_eq]; decide +kernel
  rintro e w' ⟨rfl,rfl⟩
  go_wp2
  go_ret
  exact ⟨congrArg (fun s=>Ending.returned (Value.string s)) (by decide +kernel),Below.refl _ _⟩
theorem mul_2 (w:World):Calls Tryz.prog 183 #[.int .u64 1,.int .u64 2] w fun e w'=>e=.returned (.tuple #[.int .u64 0,.int .u64 2])∧w=w':=by
  have b0:bits BinOp.and IntKind.u64 0 4294967295=0:=by decide +kernel
  have b1:bits BinOp.and IntKind.u64 1 4294967295=1:=by decide +kernel
  have b8:bits BinOp.and IntKind.u64 2 4294967295=2:=by decide +kernel
  go_enter Tryz.func183,Tryz.ntmps183
  go_wp2
  go_ret2
  exact ⟨rfl,rfl⟩
set_option maxRecDepth 100000 in
set_option maxHeartbeats 1000000 in
theorem repeat_2 (w:World) :
    Calls Tryz.prog 177 #[.string ⟨#[45]⟩,.int .i64 2] w fun e w'=>e=.returned (.string (marks (List.replicate 2 false)))∧Below w.heap.size w w':=by
  go_enter Tryz.func177,Tryz.ntmps177
  go_wp2_with (go_at_call 183; refine (mul_2 _).mono ?_; rintro e w' ⟨rfl,rfl⟩)
  refine (st_prefix _ false ?_ ?_ _).mono ?_
  · decide
  · rw [ByteArray.toList_eq]; decide +kernel
  rintro e w' ⟨rfl,rfl⟩
  go_wp2_with fail
  refine (st_prefix _ true ?_ ?_ _).mono ?_
  · decide
  · rw [ByteArray.toList_eq]; decide +kernel
  rintro e w' ⟨rfl,rfl⟩
  go_wp2
  go_ret
  exact ⟨congrArg (fun s=>Ending.returned (Value.string s)) (by decide +kernel),Below.refl _ _⟩
set_option maxRecDepth 100000 in
theorem repeat_1 (w:World) :
    Calls Tryz.prog 177 #[.string ⟨#[45]⟩,.int .i64 1] w fun e w'=>e=.returned (.string (marks (List.replicate 1 false)))∧Below w.heap.size w w':=by
  go_enter Tryz.func177,Tryz.ntmps177
  go_wp2
  go_ret
  exact ⟨rfl,Below.refl _ _⟩
theorem repeat_slots (k:Int) (h0:0≤k) (h3:k<4) (w:World) :
    Calls Tryz.prog 177 #[.string ⟨#[45]⟩,.int .i64 (cSlots k)] w fun e w'=>e=.returned (.string (marks (List.replicate (cSlots k).toNat false)))∧Below w.heap.size w w':=by
  obtain rfl | rfl | rfl | rfl:k=0 ∨ k=1 ∨ k=2 ∨ k=3:=by omega
  · exact repeat_8 w
  · exact repeat_4 w
  · exact repeat_2 w
  · exact repeat_1 w
end Go.Proofs.YtaojmbkmicjecaaGreat
namespace Go.Proofs.YtaojmbkmicjecaaGreat
open Go.RowKit Go.Maps
set_option linter.unusedVariables false
theorem law_int:Keyed Tryz.prog 3:=int_keyed Tryz.underlying3
theorem zero_int (w:World):(zeroValue 3).run Tryz.prog w=.ok (.int .i64 0) w:=by kernel_rfl
theorem wf_wd {a:Int} (h:Wd a):(Lit.int .i64 a).wf=true:=by
  unfold Wd at h; exact WalkArith.wf_i64 (by omega)
def updM (f:Int→Int) (p v:Int):Int→Int:=fun x=>if x=p then v else f x
theorem nodup_le:∀ (N:Nat) (l:List Int),l.Nodup→(∀ x ∈ l,0≤x∧x<N)→l.length≤N
  | 0,l,_,h=>by
    cases l with
    | nil=>simp
    | cons a l=>have:=h a (by simp); omega
  | N+1,l,hn,h=>by
    have ih:=nodup_le N (l.erase (N:Int)) (hn.erase _) (fun x hx=>by
      obtain ⟨hne,hx⟩:=hn.mem_erase_iff.1 hx
      have:=h x hx
      omega)
    rw [List.length_erase] at ih
    split at ih <;> omega
structure ReadsAs (D:DataW Unit) (f:Int→Int):Prop where
  keys:∀ k,Maps.has D k=true→∃ x:Int,k=.int .i64 x∧0≤x∧x<4096
  at':∀ x:Int,D.atKey (.int .i64 x) (.lit (.int .i64 0))=.lit (.int .i64 (f x))
theorem ReadsAs.size {D:DataW Unit} {f:Int→Int} (h:ReadsAs D f) (hc:Canon D):Maps.size D≤4096:=by
  obtain ⟨es,rfl,hp,hk⟩:=hc
  have hap:=apart_of_rising hp
  have key:∀ p ∈ es,∃ x:Int,p.1=.int .i64 x∧0≤x∧x<4096:=fun p hp'=>h.keys p.1 (List.any_eq_true.2 ⟨p,hp',WideAt.sameKey_self (hk p hp')⟩)
  let n:Lit×DataW Unit→Int:=fun p=>match p.1 with | .int _ x=>x | _=>0
  have hn:∀ p ∈ es,p.1=.int .i64 (n p)∧0≤n p∧n p<4096:=by
    intro p hp'
    obtain ⟨x,e,h0,h1⟩:=key p hp'
    have:n p=x:=by show (match p.1 with | .int _ x=>x | _=>0)=x; rw [e]
    rw [this]; exact ⟨e,h0,h1⟩
  have hnd:(es.map n).Nodup:=by
    rw [List.nodup_iff_pairwise_ne,List.pairwise_map]
    refine hap.imp_of_mem ?_
    intro a b ha hb hne e
    exact hne (by rw [(hn a ha).1,(hn b hb).1,e])
  have:=nodup_le 4096 (es.map n) hnd (by
    intro x hx
    obtain ⟨p,hp',rfl⟩:=List.mem_map.1 hx
    exact (hn p hp').2)
  show es.length≤4096
  simpa using this
theorem ReadsAs.empty:ReadsAs (.map []) (fun _=>0):=⟨(by intro k h; cases h),(by intro x; rfl)⟩
theorem ReadsAs.put {D:DataW Unit} {f:Int→Int} (h:ReadsAs D f) (hD:IsMap D) {y z:Int} (h0:0≤y) (h1:y<4096):ReadsAs (D.put (.int .i64 y) (.lit (.int .i64 z))) (updM f y z):=by
  constructor
  · intro k hk
    by_cases e:k=.int .i64 y
    · exact ⟨y,e,h0,h1⟩
    · rw [has_put_other e] at hk; exact h.keys k hk
  · intro x
    unfold updM
    by_cases e:x=y
    · subst e; rw [if_pos rfl]; exact atKey_put_same hD (show WideAt.IsKeyLit (.int .i64 x) from trivial) _ _
    · rw [if_neg e,atKey_put_other (by intro e2; injection e2 with _ e2; exact e e2)]; exact h.at' x
theorem ReadsAs.del {D:DataW Unit} {f:Int→Int} (h:ReadsAs D f) {y:Int}:ReadsAs (D.del (.int .i64 y)) (updM f y 0):=by
  constructor
  · intro k hk
    by_cases e:k=.int .i64 y
    · subst e; rw [has_del_same] at hk; cases hk
    · rw [has_del_other e] at hk; exact h.keys k hk
  · intro x
    unfold updM
    by_cases e:x=y
    · subst e; rw [if_pos rfl]; exact atKey_del_same _
    · rw [if_neg e,atKey_del_other (by intro e2; injection e2 with _ e2; exact e e2)]; exact h.at' x
def ColAt (w:World) (m:Nat) (f:Int→Int):Prop:=∃ D:DataW Unit,w.ownsMap Tryz.prog 3 (plainElem Tryz.prog 3) m 4096 D∧ReadsAs D f
theorem ColAt.of {w:World} {m n:Nat} {f:Int→Int} {D:DataW Unit} (h:w.ownsMap Tryz.prog 3 (plainElem Tryz.prog 3) m n D) (hr:ReadsAs D f):ColAt w m f:=by
  have hs:=hr.size (h.canon law_int)
  obtain ⟨es,clock,hb,F,hn,rfl⟩:=h
  exact ⟨_,⟨es,clock,hb,F,by simpa [Maps.size,length_sorted] using hs,rfl⟩,hr⟩
def ColP (m:Nat) (f:Int→Int):Piece where
  at' w F:=ColAt w m f∧F=[m]
  keep:=by
    rintro w w' F G ⟨⟨D,⟨es,clock,hb,r⟩,hr⟩,rfl⟩ k hd
    exact ⟨⟨D,⟨es,clock,(k.block m (Array.getElem?_eq_some_iff.1 hb).1 (hd _ (by simp))).trans hb,r⟩,hr⟩,rfl⟩
  lt:=by rintro w F ⟨⟨D,h,_⟩,rfl⟩ i hi; simp at hi; subst hi; exact h.lt
theorem St.newMap {w0:World} {F0:List Nat} {ps:List Piece} {wr:World} (h:St w0 F0 ps wr):St w0 F0 (ColP wr.heap.size (fun _=>0)::ps) (wr.alloc (.map #[] 0)) :=
  h.push ((Below.refl _ _).alloc (Nat.le_refl _) _) ⟨_,⟨ColAt.of (World.ownsMap_made _ _ _ _) ReadsAs.empty,rfl⟩,by simp⟩
section
variable {w:World} {ops:Array Oper} {rest:List Oper} {o:Oper} {a:Act} {Q:Exit→Act→World→Prop} {w0:World} {F0:List Nat} {ps:List Piece} {mb:Nat} {f:Int→Int}
theorem wpList_colGet (hg:o.guard=none) (m x:Operand) (hop:o.op=Op.lookup 73 m x false) (h:St w0 F0 ps w) (k:Nat) (hk:ps[k]?=some (ColP mb f))
    (hm:a.eval m=.map (some mb)) (y:Int) (hy:Wd y) (hx:a.eval x=.int .i64 y) (hK:wpList Tryz.prog ops Q rest (a.put o.dst (.int .i64 (f y))) w) :
    wpList Tryz.prog ops Q (o::rest) a w:=by
  obtain ⟨G,⟨D,hown,hr⟩,rfl⟩:=h.get k hk
  refine wpList_lookup_own_int w hg m x 73 hop 3 3 .i64 law_int Tryz.underlying73 Tryz.underlying3 (zero_int w) mb 4096 D hm hown (.int .i64 y) (.int .i64 y) hx (keyOf_int_mk Tryz.underlying3 (wf_wd hy)) ?_
  intro c hat _
  rw [hr.at'] at hat
  injection hat with hat
  injection hat with _ hat
  subst hat
  exact hK
theorem wpList_colSet (hg:o.guard=none) (m x v:Operand) (hop:o.op=Op.mapUpdate 73 m x v) (h:St w0 F0 (ColP mb f::ps) w)
    (hm:a.eval m=.map (some mb)) (y z:Int) (h0:0≤y) (h1:y<4096) (hz:Wd z) (hx:a.eval x=.int .i64 y) (hv:a.eval v=.int .i64 z)
    (hK:∀ w',St w0 F0 (ColP mb (updM f y z)::ps) w'→wpList Tryz.prog ops Q rest (a.put o.dst undef) w') :
    wpList Tryz.prog ops Q (o::rest) a w:=by
  obtain ⟨G,⟨D,hown,hr⟩,rfl⟩:=h.head
  refine wpList_mapUpdate_own w hg m x v 73 hop 3 3 law_int Tryz.underlying73 _ mb 4096 D hm hown (by unfold maxLen; omega) (.int .i64 y) (.int .i64 z) (.int .i64 y) hx hv (keyOf_int_mk Tryz.underlying3 (wf_wd (by unfold Wd; omega))) _ [] (plainElem_int Tryz.underlying3 (wf_wd hz)) ?_
  intro w' hown' hgrow
  refine hK w' (h.step1 ?_)
  rintro F ⟨_,rfl⟩
  exact ⟨[mb],⟨ColAt.of hown' (hr.put hown.isMap h0 h1),rfl⟩,(Keeps.refl _ _).grown hgrow (by simp),by simp⟩
end
end Go.Proofs.YtaojmbkmicjecaaGreat
