/- Span Span2 Span3 Span4 -/
import Derived.Test.YtjdlnmbfomojdaaGreatKPlain
import Derived.Test.YtjdlnmbfomojdaaGreatKMem
import Derived.Test.YtjdlnmbfomojdaaGreatKPure5
import Derived.Test.YtjdlnmbfomojdaaGreatKClass
import Derived.Test.YtjdlnmbfomojdaaGreatRows
import Derived.RegionTactic
import Derived.ChangeAlike
import Derived.BigRegion
import Derived.Deep.RegionHeld3
namespace Go.Proofs.YtjdlnmbfomojdaaGreat
open Go.RowKit
theorem next_mark (w:World) (m:List Bool) (i:Nat) (h:i<m.length) (ty:TypeId) :
    (Instr.next (.pointer (some ⟨w.heap.size,0,none⟩)) true ty).run Tryz.prog (w.iter (marks m) i)=.ok (.tuple #[.bool true,.int .i64 i,.int .i32 (if m[i] then 120 else 45)]) (w.iter (marks m) (i+1)):=by
  rw [run_next_ascii w (marks m) i ty (by rw [marks_size]; exact h) (marks_ascii m i _),marks_get m i h]
  cases m[i] <;> rfl
theorem next_marks_end (w:World) (m:List Bool) (i:Nat) (h:¬ i<m.length) (ty:TypeId) :
    (Instr.next (.pointer (some ⟨w.heap.size,0,none⟩)) true ty).run Tryz.prog (w.iter (marks m) i)=.ok (.tuple #[.bool false]) (w.iter (marks m) i) :=
  run_next_end w (marks m) i ty (by rw [marks_size]; exact h)
theorem used_snoc (m:List Bool) (i:Nat) (h:i<m.length):used (m.take (i+1))=used (m.take i)+if m[i] then 1 else 0:=by
  unfold used; rw [List.take_succ_eq_append_getElem h,List.count_append]; cases m[i] <;> rfl
theorem row_box (c:Int) (m:List Bool) (w:World):∃ W,w.alloc (.cells #[.int .i64 c,.string (marks m)] 125)=W∧Below w.heap.size w W∧W.cell? ⟨w.heap.size,1,none⟩=some (.string (marks m)) :=
  ⟨_,rfl,(Below.refl _ _).alloc (Nat.le_refl _) _,by simp⟩
set_option maxRecDepth 100000 in
theorem row_first (c:Int) (m:List Bool) (hm:m.length≤1000) (w:World) :
    Calls Tryz.prog 81 #[.agg #[.int .i64 c,.string (marks m)],.int .i32 45] w fun e w'=>e=.returned (.tuple #[.int .i64 (((firstFree m).getD 0:Nat):Int),.bool (firstFree m).isSome])∧Below w.heap.size w w':=by
  obtain ⟨W,hW,hB,hc⟩:=row_box c m w
  have HB:=Lib.hid hB
  clear hB
  go_enter Tryz.func81,Tryz.ntmps81
  go_wp2
  go_loopw [] (fun w'=>∃ pos:Nat,pos≤m.length∧w'=W.iter (marks m) pos∧Hid (∀ j (h:j<m.length),j<pos→m[j]=true)) (fun w'=>m.length - w'.iterPos W.heap.size)
  case atStart=>exact ⟨0,by omega,rfl,fun j h hj=>by omega⟩
  case round =>
    obtain ⟨pos,hp,rfl,hall⟩:=hrel
    clear hW hc
    by_cases hlt:pos<m.length
    · have hnx:=next_mark W m pos hlt
      cases hb:m[pos] with
      | true =>
        simp only [hb,if_true] at hnx
        have HBt:=Lib.hid hb
        clear hb
        go_wp2
        go_roundw
        case rel =>
          refine ⟨pos+1,by omega,rfl,fun j h hj=>?_⟩
          by_cases e:j=pos
          · subst e; exact HBt.out
          · exact hall.out j h (by omega)
        case measure=>simp; omega
      | false =>
        simp only [hb] at hnx
        have HBt:=Lib.hid hb
        clear hb
        have hff:firstFree m=some pos:=by
          unfold firstFree
          rw [List.findIdx?_eq_some_iff_getElem]
          exact ⟨hlt,by rw [HBt.out]; rfl,fun j hj=>by rw [hall.out j (by omega) hj]; simp⟩
        have HF:=Lib.hid hff
        clear hff
        go_wp2
        go_ret2
        exact ⟨ret_ib (by rw [HF.out]; rfl) (by rw [HF.out]; rfl),HB.out.trans ((iter_belowM _ _ _).mono HB.out.size)⟩
    · have hnx:=next_marks_end (w:=W) m pos hlt
      have hff:firstFree m=none:=by
        unfold firstFree
        rw [List.findIdx?_eq_none_iff]
        intro x hx
        obtain ⟨j,hj,rfl⟩:=List.mem_iff_getElem.1 hx
        rw [hall.out j hj (by omega)]; rfl
      have HF:=Lib.hid hff
      clear hff
      go_wp2
      go_ret2
      exact ⟨ret_ib (by rw [HF.out]; rfl) (by rw [HF.out]; rfl),HB.out.trans ((iter_belowM _ _ _).mono HB.out.size)⟩
def RowsAt (w:World) (g cap:Nat) (l:List SRow):Prop :=
  ∃ cur,Blk w g 125 cur∧cur.size=cap * 2∧l.length≤cap∧∀ i (h:i<l.length),cur[i * 2]?=some (.int .i64 (l[i]'h).1)∧cur[i * 2+1]?=some (.string (marks (l[i]'h).2))
theorem RowsAt.cells {w:World} {g cap:Nat} {l:List SRow} (h:RowsAt w g cap l) (i:Nat) (hi:i<l.length) :
    w.cell? ⟨g,i * 2,none⟩=some (.int .i64 (l[i]'hi).1)∧w.cell? ⟨g,i * 2+1,none⟩=some (.string (marks (l[i]'hi).2))∧w.frozen? ⟨g,i * 2,none⟩=false∧w.frozen? ⟨g,i * 2+1,none⟩=false:=by
  obtain ⟨cur,hb,hs,hl,hc⟩:=h
  obtain ⟨a,b⟩:=hc i hi
  exact ⟨(hb.cell _).trans a,(hb.cell _).trans b,hb.free _,hb.free _⟩
theorem RowsAt.lt {w:World} {g cap:Nat} {l:List SRow} (h:RowsAt w g cap l):g<w.heap.size:=by obtain ⟨cur,hb,_⟩:=h; exact hb.lt
theorem RowsAt.keep {w w':World} {g cap:Nat} {l:List SRow} {F:List Nat} (h:RowsAt w g cap l) (k:Keeps F w w') (hg:g ∉ F):RowsAt w' g cap l:=by
  obtain ⟨cur,hb,r⟩:=h
  exact ⟨cur,k.blk hb hg,r⟩
theorem RowsAt.set_marks {w:World} {g cap:Nat} {l:List SRow} (h:RowsAt w g cap l) (i:Nat) (hi:i<l.length) (m:List Bool):RowsAt (w.setCell ⟨g,i * 2+1,none⟩ (.string (marks m))) g cap (l.set i ((l[i]'hi).1,m)):=by
  obtain ⟨cur,hb,hs,hl,hc⟩:=h
  refine ⟨_,hb.set _ _,by simpa using hs,by simpa using hl,fun j hj=>?_⟩
  simp at hj
  obtain ⟨a,b⟩:=hc j hj
  by_cases e:j=i
  · subst e
    refine ⟨?_,?_⟩
    · rw [Array.getElem?_setIfInBounds,if_neg (by omega)]; simpa using a
    · rw [Array.getElem?_setIfInBounds,if_pos rfl,if_pos (by omega)]; simp
  · refine ⟨?_,?_⟩
    · rw [Array.getElem?_setIfInBounds,if_neg (by omega),List.getElem_set_ne (by omega)]; exact a
    · rw [Array.getElem?_setIfInBounds,if_neg (by omega),List.getElem_set_ne (by omega)]; exact b
theorem RowsAt.set_row {w:World} {g cap:Nat} {l:List SRow} (h:RowsAt w g cap l) (i:Nat) (hi:i<l.length) (r:SRow):RowsAt ((w.setCell ⟨g,i * 2,none⟩ (.int .i64 r.1)).setCell ⟨g,i * 2+1,none⟩ (.string (marks r.2))) g cap (l.set i r):=by
  obtain ⟨cur,hb,hs,hl,hc⟩:=h
  refine ⟨_,(hb.set _ _).set _ _,by simpa using hs,by simpa using hl,fun j hj=>?_⟩
  simp at hj
  obtain ⟨a,b⟩:=hc j hj
  by_cases e:j=i
  · subst e
    refine ⟨?_,?_⟩
    · rw [Array.getElem?_setIfInBounds,if_neg (by omega),Array.getElem?_setIfInBounds,if_pos rfl,if_pos (by omega)]; simp
    · rw [Array.getElem?_setIfInBounds,if_pos rfl,if_pos (by simp; omega)]; simp
  · refine ⟨?_,?_⟩
    · rw [Array.getElem?_setIfInBounds,if_neg (by omega),Array.getElem?_setIfInBounds,if_neg (by omega),List.getElem_set_ne (by omega)]; exact a
    · rw [Array.getElem?_setIfInBounds,if_neg (by omega),Array.getElem?_setIfInBounds,if_neg (by omega),List.getElem_set_ne (by omega)]; exact b
theorem conv_rune (c:Nat) (h:c<128) (w:World):(convert 21 9 (.int .i32 c)).run Tryz.prog w=.ok (.string ⟨#[UInt8.ofNat c]⟩) w:=by
  rw [run_convert_int_string w _ _ _ _ (by kernel_rfl) Tryz.underlying9]
  have hv:Utf8.valid (c:Int)=true:=by unfold Utf8.valid; simp; omega
  simp only [Utf8.encode,hv,if_true,Int.toNat_natCast,h]
set_option maxRecDepth 100000 in
theorem row_turn (g o:Nat) (m:List Bool) (k:Nat) (b:Bool) (hm:m.length≤1000) (hk:k<m.length) (w:World) (hc:w.cell? ⟨g,o+1,none⟩=some (.string (marks m))) (hf:w.frozen? ⟨g,o+1,none⟩=false) :
    Calls Tryz.prog 82 #[.pointer (some ⟨g,o,none⟩),.int .i64 k,.int .i32 (if b then 120 else 45)] w fun e w'=>e=.returned (.tuple #[])∧∃ n,w'=(w.setCell ⟨g,o+1,none⟩ (.string (marks (m.set k b)))).drewN n:=by
  have hz:=marks_size m
  have h1:(k:Int)≤(marks m).size:=by omega
  have h2:(k:Int)+1≤(marks m).size:=by omega
  have hms:=marks_set m k b hk
  have HM:=Lib.hid hms
  have HZ:=Lib.hid hz
  clear hz hms
  have e1:min k (marks m).size+1≤1001:=by have:=HZ.out; omega
  have e2:min k (marks m).size+1+((marks m).size - (k+1))≤2001:=by have:=HZ.out; omega
  cases b with
  | true =>
    have he:Utf8.encode 120=⟨#[120]⟩:=by decide +kernel
    go_enter Tryz.func82,Tryz.ntmps82
    go_wp2
    go_region
    go_wp2
    go_end0
    exact ⟨rfl,1,by rw [← HM.out]; rfl⟩
  | false =>
    have he:Utf8.encode 45=⟨#[45]⟩:=by decide +kernel
    go_enter Tryz.func82,Tryz.ntmps82
    go_wp2
    go_region
    go_wp2
    go_end0
    exact ⟨rfl,1,by rw [← HM.out]; rfl⟩
def SpanAt (w:World) (b:Nat) (l:List SRow) (F:List Nat):Prop :=
  ∃ g cap,Blk w b 123 #[.slice (some ⟨g,0,none⟩) l.length cap]∧RowsAt w g cap l∧cap≤maxLen∧F=[b,g]∧2≤l.length∧l.length≤128∧∀ r ∈ l,RowOk r
theorem SpanAt.keep {w w':World} {b:Nat} {l:List SRow} {F G:List Nat} (h:SpanAt w b l F) (k:Keeps G w w') (hd:∀ i ∈ F,i ∉ G):SpanAt w' b l F:=by
  obtain ⟨g,cap,h1,h2,h3,rfl,r⟩:=h
  exact ⟨g,cap,k.blk h1 (hd _ (by simp)),h2.keep k (hd _ (by simp)),h3,rfl,r⟩
theorem SpanAt.lt {w:World} {b:Nat} {l:List SRow} {F:List Nat} (h:SpanAt w b l F):∀ i ∈ F,i<w.heap.size:=by
  obtain ⟨g,cap,h1,h2,h3,rfl,r⟩:=h
  intro i hi
  simp at hi
  rcases hi with rfl | rfl
  · exact h1.lt
  · exact h2.lt
theorem SpanAt.ne {w:World} {b:Nat} {l:List SRow} {g cap:Nat} (h1:Blk w b 123 #[.slice (some ⟨g,0,none⟩) l.length cap]) (h2:RowsAt w g cap l):g≠b:=by
  obtain ⟨cur,hb,_⟩:=h2
  rintro rfl
  unfold Blk at h1 hb
  rw [h1] at hb
  injection hb with hb
  injection hb with _ e2 _
  exact absurd e2 (by decide)
end Go.Proofs.YtjdlnmbfomojdaaGreat
namespace Go.Proofs.YtjdlnmbfomojdaaGreat
open Go.RowKit
theorem int_cases (a:Int) (n:Nat):a<0 ∨ (0≤a∧(n:Int)≤a) ∨ ∃ i:Nat,a=i∧i<n:=by
  by_cases h:a<0
  · exact .inl h
  · by_cases h2:(n:Int)≤a
    · exact .inr (.inl ⟨by omega,h2⟩)
    · exact .inr (.inr ⟨a.toNat,by omega,by omega⟩)
theorem RowOk.len {r:SRow} (h:RowOk r):r.2.length≤8:=by
  rcases h with ⟨_,h⟩ | ⟨h0,h3,h,_⟩
  · rw [h]; simp
  · unfold cSlots at h; repeat' split at h
    all_goals omega
end Go.Proofs.YtjdlnmbfomojdaaGreat
namespace Go.Proofs.YtjdlnmbfomojdaaGreat
open Go.RowKit
theorem sWords_snoc (l:List SRow) (i:Nat) (h:i<l.length):sWords (l.take (i+1))=sWords (l.take i)+(used (l[i]'h).2:Int) * cWords (l[i]'h).1:=by
  unfold sWords; rw [List.take_succ_eq_append_getElem h,List.map_append,List.sum_append]; simp
theorem cWords_bd (c:Int):0≤cWords c∧cWords c≤32:=by
  unfold cWords
  (repeat' split) <;> omega
theorem used_le (m:List Bool):used m≤m.length:=List.count_le_length
theorem prod_bd {r:SRow} (h:RowOk r):0≤(used r.2:Int) * cWords r.1∧(used r.2:Int) * cWords r.1≤256:=by
  have h1:=used_le r.2
  have h2:=h.len
  have h3:=cWords_bd r.1
  constructor
  · exact Int.mul_nonneg (by omega) h3.1
  · have a:(used r.2:Int) * cWords r.1≤(used r.2:Int) * 32:=Int.mul_le_mul_of_nonneg_left h3.2 (by omega)
    omega
theorem sWords_bd (l:List SRow) (hok:∀ r ∈ l,RowOk r):∀ i,i≤l.length→0≤sWords (l.take i)∧sWords (l.take i)≤256 * (i:Int):=by
  intro i
  induction i with
  | zero=>intro _; simp [sWords]
  | succ i ih =>
    intro h
    have:=ih (by omega)
    have hp:=prod_bd (hok _ (List.getElem_mem (show i<l.length by omega)))
    rw [sWords_snoc l i (by omega)]
    omega
end Go.Proofs.YtjdlnmbfomojdaaGreat
namespace Go.Proofs.YtjdlnmbfomojdaaGreat
open Go.RowKit
theorem sUsed_some {l:List SRow} {a s:Int} (h:sUsed l a s=true):∃ (i k:Nat) (hi:i<l.length) (hk:k<(l[i]'hi).2.length),a=i∧s=k∧((l[i]'hi).2[k]'hk)=true∧sFree l a s=l.set i (freeRow (l[i]'hi) k):=by
  have h0:=h
  unfold sUsed at h
  rw [Bool.and_eq_true,decide_eq_true_eq] at h
  obtain ⟨⟨ha,hs⟩,h⟩:=h
  obtain ⟨i,rfl⟩:=Int.eq_ofNat_of_zero_le ha
  obtain ⟨k,rfl⟩:=Int.eq_ofNat_of_zero_le hs
  simp only [Int.toNat_natCast] at h
  cases hi:l[i]? with
  | none=>rw [hi] at h; cases h
  | some r =>
    rw [hi] at h
    obtain ⟨hil,rfl⟩:=List.getElem?_eq_some_iff.1 hi
    simp only [beq_iff_eq] at h
    obtain ⟨hk,hv⟩:=List.getElem?_eq_some_iff.1 h
    refine ⟨i,k,hil,hk,rfl,rfl,hv,?_⟩
    unfold sFree
    rw [if_pos h0]
    simp only [Int.toNat_natCast]
    rw [hi]; rfl
theorem freeRow_ok {r:SRow} (h:RowOk r) (k:Nat) (hk:k<r.2.length):RowOk (freeRow r k):=by
  unfold freeRow
  split
  · exact .inl ⟨rfl,rfl⟩
  · rename_i hu
    rcases h with ⟨_,h⟩ | ⟨h0,h3,hl,_⟩
    · rw [h] at hk; simp at hk
    · refine .inr ⟨h0,h3,by simpa using hl,?_⟩
      unfold used at hu
      exact List.count_pos_iff.1 (Nat.pos_of_ne_zero hu)
theorem set_ok {l:List SRow} (h:∀ r ∈ l,RowOk r) (i:Nat) {r:SRow} (hr:RowOk r):∀ x ∈ l.set i r,RowOk x:=by
  intro x hx
  rcases List.mem_or_eq_of_mem_set hx with h1 | rfl
  · exact h x h1
  · exact hr
def SpanDoes (r:Ending) (b:Nat) (l':List SRow) (F:List Nat) (w:World) (e:Ending) (w':World):Prop:=e=r∧SpanAt w' b l' F∧Keeps F w w'
end Go.Proofs.YtjdlnmbfomojdaaGreat
