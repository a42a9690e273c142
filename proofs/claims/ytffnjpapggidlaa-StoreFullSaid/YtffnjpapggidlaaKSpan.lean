/- Span Span2 Span3 Span4 -/
import Derived.Test.YtffnjpapggidlaaKPlain
import Derived.Test.YtffnjpapggidlaaKMem
import Derived.Test.YtffnjpapggidlaaKPure5
import Derived.Test.YtffnjpapggidlaaKClass
import Derived.Test.YtffnjpapggidlaaRows
import Derived.RegionTactic
import Derived.ChangeAlike
import Derived.BigRegion
import Derived.Deep.RegionHeld3
namespace Go.Proofs.Ytffnjpapggidlaa
open Go.RowKit
theorem next_mark (w:World) (m:List Bool) (i:Nat) (h:i<m.length) (ty:TypeId) :
    (Instr.next (.pointer (some ⟨w.heap.size,0,none⟩)) true ty).run Try.prog (w.iter (marks m) i)=.ok (.tuple #[.bool true,.int .i64 i,.int .i32 (if m[i] then 120 else 45)]) (w.iter (marks m) (i+1)):=by
  rw [run_next_ascii w (marks m) i ty (by rw [marks_size]; exact h) (marks_ascii m i _),marks_get m i h]
  cases m[i] <;> rfl
theorem next_marks_end (w:World) (m:List Bool) (i:Nat) (h:¬ i<m.length) (ty:TypeId) :
    (Instr.next (.pointer (some ⟨w.heap.size,0,none⟩)) true ty).run Try.prog (w.iter (marks m) i)=.ok (.tuple #[.bool false]) (w.iter (marks m) i) :=
  run_next_end w (marks m) i ty (by rw [marks_size]; exact h)
theorem used_snoc (m:List Bool) (i:Nat) (h:i<m.length):used (m.take (i+1))=used (m.take i)+if m[i] then 1 else 0:=by
  unfold used; rw [List.take_succ_eq_append_getElem h,List.count_append]; cases m[i] <;> rfl
theorem row_box (c:Int) (m:List Bool) (w:World):∃ W,w.alloc (.cells #[.int .i64 c,.string (marks m)] 85)=W∧Below w.heap.size w W∧W.cell? ⟨w.heap.size,1,none⟩=some (.string (marks m)) :=
  ⟨_,rfl,(Below.refl _ _).alloc (Nat.le_refl _) _,by simp⟩
set_option maxRecDepth 100000 in
theorem row_count (c:Int) (m:List Bool) (hm:m.length≤1000) (w:World) :
    Calls Try.prog 56 #[.agg #[.int .i64 c,.string (marks m)]] w fun e w'=>e=.returned (.int .i64 (used m))∧Below w.heap.size w w':=by
  obtain ⟨W,hW,hB,hc⟩:=row_box c m w
  have HB:=Lib.hid hB
  clear hB
  go_enter Try.func56,Try.ntmps56
  go_wp2
  go_loopw [3] (fun n w'=>∃ pos:Nat,pos≤m.length∧w'=W.iter (marks m) pos∧n=.int .i64 (used (m.take pos))) (fun _ w'=>m.length - w'.iterPos W.heap.size)
  case atStart=>exact ⟨0,by omega,rfl,rfl⟩
  case round =>
    obtain ⟨pos,hp,rfl,rfl⟩:=hrel
    clear hW hc
    have hu:used (m.take pos)≤pos:=Nat.le_trans List.count_le_length (by simp; omega)
    by_cases hlt:pos<m.length
    · have hnx:=next_mark W m pos hlt
      have hs:=used_snoc m pos hlt
      have HS:=Lib.hid hs
      clear hs
      cases hb:m[pos] with
      | true =>
        simp only [hb,if_true] at hnx
        have HBt:=Lib.hid hb
        clear hb
        go_wp2
        go_roundw
        case rel=>exact ⟨pos+1,by omega,rfl,by rw [HS.out,HBt.out]; go_num⟩
        case measure=>simp; omega
      | false =>
        simp only [hb] at hnx
        have HBt:=Lib.hid hb
        clear hb
        go_wp2
        go_roundw
        case rel=>exact ⟨pos+1,by omega,rfl,by rw [HS.out,HBt.out]; rfl⟩
        case measure=>simp; omega
    · have hnx:=next_marks_end (w:=W) m pos hlt
      go_wp2
      go_ret
      exact ⟨ret_i (by rw [List.take_of_length_le (by omega)]),HB.out.trans ((iter_belowM _ _ _).mono HB.out.size)⟩
set_option maxRecDepth 100000 in
theorem row_first (c:Int) (m:List Bool) (hm:m.length≤1000) (w:World) :
    Calls Try.prog 53 #[.agg #[.int .i64 c,.string (marks m)],.int .i32 45] w fun e w'=>e=.returned (.tuple #[.int .i64 (((firstFree m).getD 0:Nat):Int),.bool (firstFree m).isSome])∧Below w.heap.size w w':=by
  obtain ⟨W,hW,hB,hc⟩:=row_box c m w
  have HB:=Lib.hid hB
  clear hB
  go_enter Try.func53,Try.ntmps53
  go_wp2
  go_loopw [] (fun w'=>∃ pos:Nat,pos≤m.length∧w'=W.iter (marks m) pos∧Hid (∀ j (h:j<m.length),j<pos→m[j]=true)) (fun w'=>m.length - w'.iterPos W.heap.size)
  case atStart=>exact ⟨0,by omega,rfl,fun j h hj=>by omega⟩
  case round =>
    obtain ⟨pos,hp,rfl,hall⟩:=hrel
    clear hW hc
    by_cases hlt:pos<m.length
    · have hnx:=next_mark W m pos hlt
      cases hb:m[pos] with
      | true =>
        simp only [hb,if_true] at hnx
        have HBt:=Lib.hid hb
        clear hb
        go_wp2
        go_roundw
        case rel =>
          refine ⟨pos+1,by omega,rfl,fun j h hj=>?_⟩
          by_cases e:j=pos
          · subst e; exact HBt.out
          · exact hall.out j h (by omega)
        case measure=>simp; omega
      | false =>
        simp only [hb] at hnx
        have HBt:=Lib.hid hb
        clear hb
        have hff:firstFree m=some pos:=by
          unfold firstFree
          rw [List.findIdx?_eq_some_iff_getElem]
          exact ⟨hlt,by rw [HBt.out]; rfl,fun j hj=>by rw [hall.out j (by omega) hj]; simp⟩
        have HF:=Lib.hid hff
        clear hff
        go_wp2
        go_ret2
        exact ⟨ret_ib (by rw [HF.out]; rfl) (by rw [HF.out]; rfl),HB.out.trans ((iter_belowM _ _ _).mono HB.out.size)⟩
    · have hnx:=next_marks_end (w:=W) m pos hlt
      have hff:firstFree m=none:=by
        unfold firstFree
        rw [List.findIdx?_eq_none_iff]
        intro x hx
        obtain ⟨j,hj,rfl⟩:=List.mem_iff_getElem.1 hx
        rw [hall.out j hj (by omega)]; rfl
      have HF:=Lib.hid hff
      clear hff
      go_wp2
      go_ret2
      exact ⟨ret_ib (by rw [HF.out]; rfl) (by rw [HF.out]; rfl),HB.out.trans ((iter_belowM _ _ _).mono HB.out.size)⟩
def RowsAt (w:World) (g cap:Nat) (l:List SRow):Prop :=
  ∃ cur,Blk w g 85 cur∧cur.size=cap * 2∧l.length≤cap∧∀ i (h:i<l.length),cur[i * 2]?=some (.int .i64 (l[i]'h).1)∧cur[i * 2+1]?=some (.string (marks (l[i]'h).2))
theorem RowsAt.cells {w:World} {g cap:Nat} {l:List SRow} (h:RowsAt w g cap l) (i:Nat) (hi:i<l.length) :
    w.cell? ⟨g,i * 2,none⟩=some (.int .i64 (l[i]'hi).1)∧w.cell? ⟨g,i * 2+1,none⟩=some (.string (marks (l[i]'hi).2))∧w.frozen? ⟨g,i * 2,none⟩=false∧w.frozen? ⟨g,i * 2+1,none⟩=false:=by
  obtain ⟨cur,hb,hs,hl,hc⟩:=h
  obtain ⟨a,b⟩:=hc i hi
  exact ⟨(hb.cell _).trans a,(hb.cell _).trans b,hb.free _,hb.free _⟩
theorem RowsAt.lt {w:World} {g cap:Nat} {l:List SRow} (h:RowsAt w g cap l):g<w.heap.size:=by obtain ⟨cur,hb,_⟩:=h; exact hb.lt
theorem RowsAt.keep {w w':World} {g cap:Nat} {l:List SRow} {F:List Nat} (h:RowsAt w g cap l) (k:Keeps F w w') (hg:g ∉ F):RowsAt w' g cap l:=by
  obtain ⟨cur,hb,r⟩:=h
  exact ⟨cur,k.blk hb hg,r⟩
theorem RowsAt.set_marks {w:World} {g cap:Nat} {l:List SRow} (h:RowsAt w g cap l) (i:Nat) (hi:i<l.length) (m:List Bool):RowsAt (w.setCell ⟨g,i * 2+1,none⟩ (.string (marks m))) g cap (l.set i ((l[i]'hi).1,m)):=by
  obtain ⟨cur,hb,hs,hl,hc⟩:=h
  refine ⟨_,hb.set _ _,by simpa using hs,by simpa using hl,fun j hj=>?_⟩
  simp at hj
  obtain ⟨a,b⟩:=hc j hj
  by_cases e:j=i
  · subst e
    refine ⟨?_,?_⟩
    · rw [Array.getElem?_setIfInBounds,if_neg (by omega)]; simpa using a
    · rw [Array.getElem?_setIfInBounds,if_pos rfl,if_pos (by omega)]; simp
  · refine ⟨?_,?_⟩
    · rw [Array.getElem?_setIfInBounds,if_neg (by omega),List.getElem_set_ne (by omega)]; exact a
    · rw [Array.getElem?_setIfInBounds,if_neg (by omega),List.getElem_set_ne (by omega)]; exact b
theorem RowsAt.set_row {w:World} {g cap:Nat} {l:List SRow} (h:RowsAt w g cap l) (i:Nat) (hi:i<l.length) (r:SRow):RowsAt ((w.setCell ⟨g,i * 2,none⟩ (.int .i64 r.1)).setCell ⟨g,i * 2+1,none⟩ (.string (marks r.2))) g cap (l.set i r):=by
  obtain ⟨cur,hb,hs,hl,hc⟩:=h
  refine ⟨_,(hb.set _ _).set _ _,by simpa using hs,by simpa using hl,fun j hj=>?_⟩
  simp at hj
  obtain ⟨a,b⟩:=hc j hj
  by_cases e:j=i
  · subst e
    refine ⟨?_,?_⟩
    · rw [Array.getElem?_setIfInBounds,if_neg (by omega),Array.getElem?_setIfInBounds,if_pos rfl,if_pos (by omega)]; simp
    · rw [Array.getElem?_setIfInBounds,if_pos rfl,if_pos (by simp; omega)]; simp
  · refine ⟨?_,?_⟩
    · rw [Array.getElem?_setIfInBounds,if_neg (by omega),Array.getElem?_setIfInBounds,if_neg (by omega),List.getElem_set_ne (by omega)]; exact a
    · rw [Array.getElem?_setIfInBounds,if_neg (by omega),Array.getElem?_setIfInBounds,if_neg (by omega),List.getElem_set_ne (by omega)]; exact b
theorem conv_rune (c:Nat) (h:c<128) (w:World):(convert 21 9 (.int .i32 c)).run Try.prog w=.ok (.string ⟨#[UInt8.ofNat c]⟩) w:=by
  rw [run_convert_int_string w _ _ _ _ (by kernel_rfl) Try.underlying9]
  have hv:Utf8.valid (c:Int)=true:=by unfold Utf8.valid; simp; omega
  simp only [Utf8.encode,hv,if_true,Int.toNat_natCast,h]
set_option maxRecDepth 100000 in
theorem row_turn (g o:Nat) (m:List Bool) (k:Nat) (b:Bool) (hm:m.length≤1000) (hk:k<m.length) (w:World) (hc:w.cell? ⟨g,o+1,none⟩=some (.string (marks m))) (hf:w.frozen? ⟨g,o+1,none⟩=false) :
    Calls Try.prog 54 #[.pointer (some ⟨g,o,none⟩),.int .i64 k,.int .i32 (if b then 120 else 45)] w fun e w'=>e=.returned (.tuple #[])∧∃ n,w'=(w.setCell ⟨g,o+1,none⟩ (.string (marks (m.set k b)))).drewN n:=by
  have hz:=marks_size m
  have h1:(k:Int)≤(marks m).size:=by omega
  have h2:(k:Int)+1≤(marks m).size:=by omega
  have hms:=marks_set m k b hk
  have HM:=Lib.hid hms
  have HZ:=Lib.hid hz
  clear hz hms
  have e1:min k (marks m).size+1≤1001:=by have:=HZ.out; omega
  have e2:min k (marks m).size+1+((marks m).size - (k+1))≤2001:=by have:=HZ.out; omega
  cases b with
  | true =>
    have he:Utf8.encode 120=⟨#[120]⟩:=by decide +kernel
    go_enter Try.func54,Try.ntmps54
    go_wp2
    go_region
    go_wp2
    go_end0
    exact ⟨rfl,1,by rw [← HM.out]; rfl⟩
  | false =>
    have he:Utf8.encode 45=⟨#[45]⟩:=by decide +kernel
    go_enter Try.func54,Try.ntmps54
    go_wp2
    go_region
    go_wp2
    go_end0
    exact ⟨rfl,1,by rw [← HM.out]; rfl⟩
def SpanAt (w:World) (b:Nat) (l:List SRow) (F:List Nat):Prop :=
  ∃ g cap,Blk w b 83 #[.slice (some ⟨g,0,none⟩) l.length cap]∧RowsAt w g cap l∧cap≤maxLen∧F=[b,g]∧2≤l.length∧l.length≤128∧∀ r ∈ l,RowOk r
theorem SpanAt.keep {w w':World} {b:Nat} {l:List SRow} {F G:List Nat} (h:SpanAt w b l F) (k:Keeps G w w') (hd:∀ i ∈ F,i ∉ G):SpanAt w' b l F:=by
  obtain ⟨g,cap,h1,h2,h3,rfl,r⟩:=h
  exact ⟨g,cap,k.blk h1 (hd _ (by simp)),h2.keep k (hd _ (by simp)),h3,rfl,r⟩
theorem SpanAt.lt {w:World} {b:Nat} {l:List SRow} {F:List Nat} (h:SpanAt w b l F):∀ i ∈ F,i<w.heap.size:=by
  obtain ⟨g,cap,h1,h2,h3,rfl,r⟩:=h
  intro i hi
  simp at hi
  rcases hi with rfl | rfl
  · exact h1.lt
  · exact h2.lt
theorem SpanAt.ne {w:World} {b:Nat} {l:List SRow} {g cap:Nat} (h1:Blk w b 83 #[.slice (some ⟨g,0,none⟩) l.length cap]) (h2:RowsAt w g cap l):g≠b:=by
  obtain ⟨cur,hb,_⟩:=h2
  rintro rfl
  unfold Blk at h1 hb
  rw [h1] at hb
  injection hb with hb
  injection hb with _ e2 _
  exact absurd e2 (by decide)
end Go.Proofs.Ytffnjpapggidlaa
namespace Go.Proofs.Ytffnjpapggidlaa
open Go.RowKit
theorem int_cases (a:Int) (n:Nat):a<0 ∨ (0≤a∧(n:Int)≤a) ∨ ∃ i:Nat,a=i∧i<n:=by
  by_cases h:a<0
  · exact .inl h
  · by_cases h2:(n:Int)≤a
    · exact .inr (.inl ⟨by omega,h2⟩)
    · exact .inr (.inr ⟨a.toNat,by omega,by omega⟩)
theorem RowOk.len {r:SRow} (h:RowOk r):r.2.length≤8:=by
  rcases h with ⟨_,h⟩ | ⟨h0,h3,h,_⟩
  · rw [h]; simp
  · unfold cSlots at h; repeat' split at h
    all_goals omega
theorem span_Len (b:Nat) (l:List SRow) (F:List Nat) (w:World) (hS:SpanAt w b l F) :
    Calls Try.prog 51 #[.pointer (some ⟨b,0,none⟩)] w fun e w'=>e=.returned (.int .i64 l.length)∧w=w':=by
  obtain ⟨g,cap,hb,hr,hcap,hF,hn⟩:=hS
  have c0:=hb.cell 0
  simp at c0
  clear hF hn
  go_enter Try.func51,Try.ntmps51
  go_wp2
  go_ret
  exact ⟨rfl,rfl⟩
theorem span_Class (b:Nat) (l:List SRow) (F:List Nat) (a:Int) (w:World) (hS:SpanAt w b l F) :
    Calls Try.prog 10 #[.pointer (some ⟨b,0,none⟩),.int .i64 a] w fun e w'=>e=.returned (.int .i64 (sClass l a))∧w=w':=by
  obtain ⟨g,cap,hb,hr,hcap,hF,hn⟩:=hS
  have c0:=hb.cell 0
  simp at c0
  clear hF
  rcases int_cases a l.length with h | ⟨h0,h⟩ | ⟨i,rfl,hi⟩
  · have e:sClass l a=-1:=by unfold sClass; rw [if_neg (by omega)]
    rw [e]; clear e
    go_enter Try.func10,Try.ntmps10
    go_wp2
    go_ret
    exact ⟨rfl,rfl⟩
  · have e:sClass l a=-1:=by unfold sClass; rw [if_pos h0,List.getElem?_eq_none (by omega)]
    rw [e]; clear e
    go_enter Try.func10,Try.ntmps10
    go_wp2
    go_ret
    exact ⟨rfl,rfl⟩
  · have e:sClass l i=(l[i]'hi).1:=by unfold sClass; rw [if_pos (by omega)]; simp [hi]
    rw [e]; clear e
    obtain ⟨d0,-,-,-⟩:=hr.cells i hi
    generalize (l[i]'hi).1=c at *
    have i1:(i:Int)<l.length:=by omega
    clear hr hn
    go_enter Try.func10,Try.ntmps10
    go_wp2
    go_ret
    exact ⟨rfl,rfl⟩
set_option maxRecDepth 100000 in
theorem span_Used (b:Nat) (l:List SRow) (F:List Nat) (a s:Int) (w:World) (hS:SpanAt w b l F) :
    Calls Try.prog 12 #[.pointer (some ⟨b,0,none⟩),.int .i64 a,.int .i64 s] w fun e w'=>e=.returned (.bool (sUsed l a s))∧Below w.heap.size w w':=by
  have HS:=Lib.hid hS
  obtain ⟨g,cap,hb,hr,hcap,hF,hn,hn2,hok⟩:=hS
  have c0:=hb.cell 0
  simp at c0
  clear hF
  by_cases hcl:sClass l a=-1
  · have e:sUsed l a s=false:=by
      unfold sUsed
      rcases int_cases a l.length with h | ⟨h0,h⟩ | ⟨i,rfl,hi⟩
      · rw [decide_eq_false (by omega)]; rfl
      · rw [List.getElem?_eq_none (by omega)]; simp
      · have e:sClass l i=(l[i]'hi).1:=by unfold sClass; rw [if_pos (by omega)]; simp [hi]
        rw [e] at hcl
        rcases hok _ (List.getElem_mem hi) with ⟨_,h2⟩ | ⟨h2,_⟩
        · simp [hi,h2]
        · omega
    rw [e]; clear e
    have CL:=Lib.hid hcl
    clear hcl
    go_enter Try.func12,Try.ntmps12
    go_wp2_with (go_at_call 10; refine (span_Class _ _ _ _ _ HS.out).mono ?_; rintro e w' ⟨rfl,rfl⟩; rw [CL.out])
    go_ret
    exact ⟨rfl,Below.refl _ _⟩
  · by_cases hs:s<0
    · have e:sUsed l a s=false:=by unfold sUsed; rw [decide_eq_false (by omega)]; rfl
      rw [e]; clear e
      have hc2:(sClass l a == -1)=false:=by rw [beq_eq_false_iff_ne]; exact hcl
      clear hcl
      go_enter Try.func12,Try.ntmps12
      go_wp2_with (go_at_call 10; refine (span_Class _ _ _ _ _ HS.out).mono ?_; rintro e w' ⟨rfl,rfl⟩)
      go_ret
      exact ⟨rfl,Below.refl _ _⟩
    · obtain ⟨i,rfl,hi⟩:∃ i:Nat,a=i∧i<l.length:=by
        rcases int_cases a l.length with h | ⟨h0,h⟩ | h
        · exact absurd (by unfold sClass; rw [if_neg (by omega)]) hcl
        · exact absurd (by unfold sClass; rw [if_pos h0,List.getElem?_eq_none (by omega)]) hcl
        · exact h
      obtain ⟨k,rfl⟩:=Int.eq_ofNat_of_zero_le (show 0≤s by omega)
      have hc2:(sClass l i == -1)=false:=by rw [beq_eq_false_iff_ne]; exact hcl
      obtain ⟨-,d1,-,-⟩:=hr.cells i hi
      have e:sUsed l i k=((l[i]'hi).2[k]? == some true):=by unfold sUsed; simp [hi]
      have hm:=(hok _ (List.getElem_mem hi)).len
      rw [e]; clear e
      generalize (l[i]'hi).2=m at *
      have i1:(i:Int)<l.length:=by omega
      have k0:(0:Int)≤k:=by omega
      clear hcl hr hok hs
      go_enter Try.func12,Try.ntmps12
      go_wp2_with (go_at_call 10; refine (span_Class _ _ _ _ _ HS.out).mono ?_; rintro e w' ⟨rfl,rfl⟩)
      go_loopw [] (fun w'=>∃ pos:Nat,pos≤m.length∧w'=w.iter (marks m) pos∧pos≤k) (fun w'=>m.length - w'.iterPos w.heap.size)
      case atStart=>exact ⟨0,by omega,rfl,by omega⟩
      case round =>
        obtain ⟨pos,hp,rfl,hpk⟩:=hrel
        by_cases hlt:pos<m.length
        · have hnx:=next_mark w m pos hlt
          by_cases hk:pos=k
          · subst hk
            have hu:(m[pos]? == some true)=m[pos]:=by rw [List.getElem?_eq_getElem hlt]; cases m[pos] <;> rfl
            have HU:=Lib.hid hu
            cases hbv:m[pos] with
            | true =>
              simp only [hbv,if_true] at hnx
              have HBt:=Lib.hid hbv
              clear hu hbv
              go_wp2
              go_ret
              exact ⟨ret_b (by rw [HU.out,HBt.out]),iter_belowM _ _ _⟩
            | false =>
              simp only [hbv] at hnx
              have HBt:=Lib.hid hbv
              clear hu hbv
              go_wp2
              go_ret
              exact ⟨ret_b (by rw [HU.out,HBt.out]),iter_belowM _ _ _⟩
          · have hne:((pos:Int) == k)=false:=by rw [beq_eq_false_iff_ne]; omega
            generalize (if m[pos] then (120:Int) else 45)=c at *
            go_wp2
            go_roundw
            case rel=>exact ⟨pos+1,by omega,rfl,by omega⟩
            case measure=>simp; omega
        · have hnx:=next_marks_end (w:=w) m pos hlt
          have hu:(m[k]? == some true)=false:=by rw [List.getElem?_eq_none (by omega)]; rfl
          have HU:=Lib.hid hu
          clear hu
          go_wp2
          go_ret
          exact ⟨ret_b HU.out.symm,iter_belowM _ _ _⟩
end Go.Proofs.Ytffnjpapggidlaa
namespace Go.Proofs.Ytffnjpapggidlaa
open Go.RowKit
theorem sWords_snoc (l:List SRow) (i:Nat) (h:i<l.length):sWords (l.take (i+1))=sWords (l.take i)+(used (l[i]'h).2:Int) * cWords (l[i]'h).1:=by
  unfold sWords; rw [List.take_succ_eq_append_getElem h,List.map_append,List.sum_append]; simp
theorem cWords_bd (c:Int):0≤cWords c∧cWords c≤32:=by
  unfold cWords
  (repeat' split) <;> omega
theorem used_le (m:List Bool):used m≤m.length:=List.count_le_length
theorem prod_bd {r:SRow} (h:RowOk r):0≤(used r.2:Int) * cWords r.1∧(used r.2:Int) * cWords r.1≤256:=by
  have h1:=used_le r.2
  have h2:=h.len
  have h3:=cWords_bd r.1
  constructor
  · exact Int.mul_nonneg (by omega) h3.1
  · have a:(used r.2:Int) * cWords r.1≤(used r.2:Int) * 32:=Int.mul_le_mul_of_nonneg_left h3.2 (by omega)
    omega
theorem sWords_bd (l:List SRow) (hok:∀ r ∈ l,RowOk r):∀ i,i≤l.length→0≤sWords (l.take i)∧sWords (l.take i)≤256 * (i:Int):=by
  intro i
  induction i with
  | zero=>intro _; simp [sWords]
  | succ i ih =>
    intro h
    have:=ih (by omega)
    have hp:=prod_bd (hok _ (List.getElem_mem (show i<l.length by omega)))
    rw [sWords_snoc l i (by omega)]
    omega
set_option maxRecDepth 100000 in
set_option maxHeartbeats 1000000 in
theorem span_Words (b:Nat) (l:List SRow) (F:List Nat) (w:World) (hS:SpanAt w b l F) :
    Calls Try.prog 14 #[.pointer (some ⟨b,0,none⟩)] w fun e w'=>e=.returned (.int .i64 (sWords l))∧Below w.heap.size w w':=by
  have HS:=Lib.hid hS
  obtain ⟨g,cap,hb,hr,hcap,hF,hn,hn2,hok⟩:=hS
  have c0:=hb.cell 0
  have hbl:=hb.lt
  have hgl:=hr.lt
  simp at c0
  have HR:=Lib.hid hr
  have OK:=Lib.hid hok
  unfold maxLen at hcap
  have hlc:l.length≤cap:=by obtain ⟨_,_,_,h,_⟩:=hr; exact h
  clear hF hr hok hb
  go_enter Try.func14,Try.ntmps14
  go_wp2_with (go_at_call 51; refine (span_Len _ _ _ _ HS.out).mono ?_; rintro e w' ⟨rfl,rfl⟩)
  go_loopw [3,7] (fun s i wr=>∃ k:Nat,k≤l.length∧i=.int .i64 k∧s=.int .i64 (sWords (l.take k))∧Below w.heap.size w wr) (fun _ i _=>l.length - (intOf i).toNat)
  case atStart=>exact ⟨0,by omega,rfl,rfl,Below.refl _ _⟩
  case round =>
    obtain ⟨k,hk,rfl,rfl,hbl1⟩:=hrel
    have bd:=sWords_bd l OK.out k hk
    by_cases hlt:k<l.length
    · obtain ⟨d0,d1,-,-⟩:=HR.out.cells k hlt
      have hro:=OK.out _ (List.getElem_mem hlt)
      have hm:=hro.len
      have hp:=prod_bd hro
      have hsn:=sWords_snoc l k hlt
      generalize (l[k]'hlt).1=c at *
      generalize (l[k]'hlt).2=m at *
      have x0:wr.cell? ⟨b,0,none⟩=some (.slice (some ⟨g,0,none⟩) l.length cap):=(hbl1.cell (p:=⟨b,0,none⟩) hbl).trans c0
      have x1:wr.cell? ⟨g,k * 2,none⟩=some (.int .i64 c):=(hbl1.cell (p:=⟨g,k * 2,none⟩) hgl).trans d0
      have x2:wr.cell? ⟨g,k * 2+1,none⟩=some (.string (marks m)):=(hbl1.cell (p:=⟨g,k * 2+1,none⟩) hgl).trans d1
      have hgr:g<wr.heap.size:=Nat.lt_of_lt_of_le hgl hbl1.size
      have hbr:b<wr.heap.size:=Nat.lt_of_lt_of_le hbl hbl1.size
      have i0:(0:Int)≤k:=by omega
      have i1:(k:Int)<l.length:=by omega
      have hw1:IntKind.i64.wrap ((used m:Int) * cWords c)=(used m:Int) * cWords c:=IntWalk.i64_in _ (by omega)
      have hw2:IntKind.i64.wrap (sWords (l.take k)+(used m:Int) * cWords c)=sWords (l.take k)+(used m:Int) * cWords c:=IntWalk.i64_in _ (by omega)
      have HSN:=Lib.hid hsn
      have HB1:=Lib.hid hbl1
      clear hsn hro hbl1 d0 d1 c0
      have b0:Below wr.heap.size wr wr.drew:=(Below.refl _ _).drew
      go_wp2
      go_region_held3 (fun (w':World)=>Below wr.heap.size wr w'∧w'.cell? ⟨b,0,none⟩=some (.slice (some ⟨g,0,none⟩) l.length cap)∧w'.cell? ⟨g,k * 2,none⟩=some (.int .i64 c)∧w'.cell? ⟨g,k * 2+1,none⟩=some (.string (marks m))) (first | assumption | (refine ⟨?_,?_,?_,?_⟩ <;> assumption) | go_keep)
        (first
          | (go_at_call 56; refine (row_count _ _ (by omega) _).mono ?_; rintro e w3 ⟨rfl,hb3⟩; have B3:=below_next (B:=wr.heap.size) (a:=wr) (by assumption) hb3 (Nat.le_refl _); have y0:=(B3.cell (p:=⟨b,0,none⟩) hbr).trans x0; have y1:=(B3.cell (p:=⟨g,k * 2,none⟩) hgr).trans x1; have y2:=(B3.cell (p:=⟨g,k * 2+1,none⟩) hgr).trans x2)
          | (go_at_call 57; refine (class_Words _ _).mono ?_; rintro e w4 ⟨rfl,hb4⟩; have B4:=below_next (B:=wr.heap.size) (a:=wr) (by assumption) hb4 (Nat.le_refl _); have y0:=(B4.cell (p:=⟨b,0,none⟩) hbr).trans x0; have y1:=(B4.cell (p:=⟨g,k * 2,none⟩) hgr).trans x1; have y2:=(B4.cell (p:=⟨g,k * 2+1,none⟩) hgr).trans x2))
      go_wp2
      go_roundw
      case rel=>exact ⟨k+1,by omega,by go_num,by rw [HSN.out],HB1.out.trans (Below.mono (by assumption) HB1.out.size)⟩
      case measure=>simp [intOf]; omega
    · go_wp2
      go_ret
      exact ⟨ret_i (by rw [List.take_of_length_le (by omega)]),hbl1⟩
end Go.Proofs.Ytffnjpapggidlaa
namespace Go.Proofs.Ytffnjpapggidlaa
open Go.RowKit
theorem sUsed_some {l:List SRow} {a s:Int} (h:sUsed l a s=true):∃ (i k:Nat) (hi:i<l.length) (hk:k<(l[i]'hi).2.length),a=i∧s=k∧((l[i]'hi).2[k]'hk)=true∧sFree l a s=l.set i (freeRow (l[i]'hi) k):=by
  have h0:=h
  unfold sUsed at h
  rw [Bool.and_eq_true,decide_eq_true_eq] at h
  obtain ⟨⟨ha,hs⟩,h⟩:=h
  obtain ⟨i,rfl⟩:=Int.eq_ofNat_of_zero_le ha
  obtain ⟨k,rfl⟩:=Int.eq_ofNat_of_zero_le hs
  simp only [Int.toNat_natCast] at h
  cases hi:l[i]? with
  | none=>rw [hi] at h; cases h
  | some r =>
    rw [hi] at h
    obtain ⟨hil,rfl⟩:=List.getElem?_eq_some_iff.1 hi
    simp only [beq_iff_eq] at h
    obtain ⟨hk,hv⟩:=List.getElem?_eq_some_iff.1 h
    refine ⟨i,k,hil,hk,rfl,rfl,hv,?_⟩
    unfold sFree
    rw [if_pos h0]
    simp only [Int.toNat_natCast]
    rw [hi]; rfl
theorem freeRow_ok {r:SRow} (h:RowOk r) (k:Nat) (hk:k<r.2.length):RowOk (freeRow r k):=by
  unfold freeRow
  split
  · exact .inl ⟨rfl,rfl⟩
  · rename_i hu
    rcases h with ⟨_,h⟩ | ⟨h0,h3,hl,_⟩
    · rw [h] at hk; simp at hk
    · refine .inr ⟨h0,h3,by simpa using hl,?_⟩
      unfold used at hu
      exact List.count_pos_iff.1 (Nat.pos_of_ne_zero hu)
theorem set_ok {l:List SRow} (h:∀ r ∈ l,RowOk r) (i:Nat) {r:SRow} (hr:RowOk r):∀ x ∈ l.set i r,RowOk x:=by
  intro x hx
  rcases List.mem_or_eq_of_mem_set hx with h1 | rfl
  · exact h x h1
  · exact hr
def SpanDoes (r:Ending) (b:Nat) (l':List SRow) (F:List Nat) (w:World) (e:Ending) (w':World):Prop:=e=r∧SpanAt w' b l' F∧Keeps F w w'
set_option maxRecDepth 100000 in
set_option maxHeartbeats 1000000 in
theorem span_Free (b:Nat) (l:List SRow) (F:List Nat) (a s:Int) (w:World) (hS:SpanAt w b l F) :
    Calls Try.prog 11 #[.pointer (some ⟨b,0,none⟩),.int .i64 a,.int .i64 s] w (SpanDoes (.returned (.bool (sUsed l a s))) b (sFree l a s) F w):=by
  have HS:=Lib.hid hS
  cases hu:sUsed l a s with
  | false =>
    have hf:sFree l a s=l:=by unfold sFree; rw [hu]; rfl
    rw [hf]
    have HU:=Lib.hid hu
    clear hu hf hS
    go_enter Try.func11,Try.ntmps11
    go_wp2_with (go_at_call 12; refine (span_Used _ _ _ _ _ _ HS.out).mono ?_; rintro e w1 ⟨rfl,hb1⟩; rw [HU.out])
    go_ret
    exact ⟨rfl,HS.out.keep (Keeps.of_below (by assumption) []) (by simp),Keeps.of_below (by assumption) F⟩
  | true =>
    obtain ⟨i,k,hi,hk,rfl,rfl,hv,hf⟩:=sUsed_some hu
    rw [hf]
    have HU:=Lib.hid hu
    clear hu hf hS
    go_enter Try.func11,Try.ntmps11
    go_wp2_with fail
    refine (span_Used _ _ _ _ _ _ HS.out).mono ?_
    rintro e w1 ⟨rfl,hb1⟩
    rw [HU.out]
    have HS1:=Lib.hid (HS.out.keep (Keeps.of_below hb1 []) (by simp))
    obtain ⟨g,cap,hb,hr,hcap,hF,hn,hn2,hok⟩:=HS1.out
    have hk1:=Keeps.of_below hb1 F
    have c0:=hb.cell 0
    obtain ⟨d0,d1,f0,f1⟩:=hr.cells i hi
    have hro:=hok _ (List.getElem_mem hi)
    have hm:=hro.len
    have hfr:=freeRow_ok hro k hk
    simp at c0
    unfold maxLen at hcap
    have hlc:l.length≤cap:=by obtain ⟨_,_,_,h,_⟩:=hr; exact h
    have hset:=hr.set_marks i hi ((l[i]'hi).2.set k false)
    have hne:=SpanAt.ne hb hr
    have i0:(0:Int)≤i:=by omega
    have i1:(i:Int)<l.length:=by omega
    have RO:=Lib.hid hro
    have OK:=Lib.hid hok
    have HR:=Lib.hid hr
    have HB:=Lib.hid hb
    have HK:=Lib.hid hk1
    have SET:=Lib.hid hset
    have HFm:=Lib.hid hF
    have NE:=Lib.hid hne
    have FR:=Lib.hid hfr
    clear hro hok hr hb hk1 hset hF hne hb1 hfr HS HU hv
    go_wp2_with fail
    refine (row_turn g (i * 2) _ k false (by omega) hk _ d1 f1).mono ?_
    rintro e w2 ⟨rfl,n,hw2⟩
    have hr2:RowsAt w2 g cap (l.set i ((l[i]'hi).1,(l[i]'hi).2.set k false)):=by rw [hw2]; exact SET.out
    have hb2:Blk w2 b 83 #[.slice (some ⟨g,0,none⟩) l.length cap]:=by rw [hw2]; exact (HB.out.far (p:=⟨g,i * 2+1,none⟩) (fun e=>NE.out e.symm) _).drewN n
    have hk2:Keeps F w w2:=by rw [hw2]; exact (HK.out.set (p:=⟨g,i * 2+1,none⟩) (by rw [HFm.out]; simp) _).drewN n
    clear hw2 d0 d1 f0 f1 SET c0
    obtain ⟨d0,d1,f0,f1⟩:=hr2.cells i (by simpa using hi)
    rw [List.getElem_set_self] at d0 d1
    have HR2:=Lib.hid hr2
    have HB2:=Lib.hid hb2
    have HK2:=Lib.hid hk2
    clear hr2 hb2 hk2
    go_wp2_with fail
    refine (row_count _ _ (by simp; omega) _).mono ?_
    rintro e w3 ⟨rfl,hb3⟩
    have hr3:=HR2.out.keep (Keeps.of_below hb3 []) (by simp)
    have hb3':=(Keeps.of_below hb3 []).blk HB2.out (by simp)
    have hk3:=HK2.out.next hb3
    obtain ⟨d0',d1',f0',f1'⟩:=hr3.cells i (by simpa using hi)
    have HR3:=Lib.hid hr3
    have HB3:=Lib.hid hb3'
    have HK3:=Lib.hid hk3
    clear hr3 hb3' hk3 hb3 d0 d1 f0 f1
    by_cases hz:used ((l[i]'hi).2.set k false)=0
    · have hfe:freeRow (l[i]'hi) k=noRow:=by unfold freeRow; rw [if_pos hz]
      have hz':((used ((l[i]'hi).2.set k false):Int) == 0)=true:=by rw [hz]; rfl
      have FE:=Lib.hid hfe
      clear hz hfe
      go_wp2
      go_ret
      refine ⟨rfl,?_,(HK3.out.set (by rw [HFm.out]; simp) _).set (by rw [HFm.out]; simp) _⟩
      rw [FE.out]
      have hsr:=HR3.out.set_row i (by simpa using hi) noRow
      rw [List.set_set] at hsr
      exact ⟨g,cap,by simpa using (HB3.out.far (p:=⟨g,i * 2,none⟩) (fun e=>NE.out e.symm) _).far (p:=⟨g,i * 2+1,none⟩) (fun e=>NE.out e.symm) _,hsr,by unfold maxLen; omega,HFm.out,by simpa using hn,by simpa using hn2,set_ok OK.out i (.inl ⟨rfl,rfl⟩)⟩
    · have hfe:freeRow (l[i]'hi) k=((l[i]'hi).1,(l[i]'hi).2.set k false):=by unfold freeRow; rw [if_neg hz]
      have hz':((used ((l[i]'hi).2.set k false):Int) == 0)=false:=by rw [beq_eq_false_iff_ne]; omega
      have FE:=Lib.hid hfe
      clear hz hfe
      go_wp2
      go_ret
      refine ⟨rfl,?_,HK3.out⟩
      rw [FE.out]
      refine ⟨g,cap,by simpa using HB3.out,HR3.out,by unfold maxLen; omega,HFm.out,by simpa using hn,by simpa using hn2,set_ok OK.out i ?_⟩
      have:=FR.out
      rwa [FE.out] at this
end Go.Proofs.Ytffnjpapggidlaa
