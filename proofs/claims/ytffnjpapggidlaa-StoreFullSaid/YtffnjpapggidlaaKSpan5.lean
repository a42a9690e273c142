/- Span5 Span6 PureSpan Pure7 Arena Arena2 Arena3 Arena4 Arena5 -/
import Derived.Test.YtffnjpapggidlaaKSpan
import Derived.Test.YtffnjpapggidlaaKRepeat
import Derived.Laws.ResultCell
import Derived.Laws.MakeOwn
namespace Go.Proofs.Ytffnjpapggidlaa
open Go.RowKit
def sAllocV (k:Int) (l:List SRow):Value:=match sAlloc k l with
  | some (i,s,_)=>.tuple #[.int .i64 i,.int .i64 s,.bool true]
  | none=>.tuple #[.int .i64 0,.int .i64 0,.bool false]
def sAllocL (k:Int) (l:List SRow):List SRow:=match sAlloc k l with
  | some (_,_,l')=>l'
  | none=>l
def freshOf (l:List SRow):Int:=match l.findIdx? isNone with
  | some j=>j
  | none=>-1
theorem findIdx_at {α:Type} {p:α→Bool} {l:List α} {j:Nat} (hlt:j<l.length) (hall:∀ r ∈ l.take j,p r=false) (h:p l[j]=true):l.findIdx? p=some j:=by
  rw [List.findIdx?_eq_some_iff_getElem]
  refine ⟨hlt,h,fun i hi=>?_⟩
  have:=hall (l[i]) (by rw [List.mem_take_iff_getElem]; exact ⟨i,by omega,rfl⟩)
  simp [this]
theorem findIdx_no {α:Type} {p:α→Bool} {l:List α} (hall:∀ r ∈ l,p r=false):l.findIdx? p=none:=by
  rw [List.findIdx?_eq_none_iff]; exact hall
theorem firstFree_lt {m:List Bool} (h:(firstFree m).isSome=true):(firstFree m).getD 0<m.length:=by
  obtain ⟨s,hs⟩:=Option.isSome_iff_exists.1 h
  rw [hs]
  unfold firstFree at hs
  rw [List.findIdx?_eq_some_iff_getElem] at hs
  exact hs.1
theorem sAlloc_at {k:Int} {l:List SRow} {j:Nat} (hlt:j<l.length) (hz:¬ cSlots k=0) (hall:∀ r ∈ l.take j,rowFree k r=false) (h:rowFree k l[j]=true) :
    sAlloc k l=some (j,(firstFree l[j].2).getD 0,l.set j (l[j].1,l[j].2.set ((firstFree l[j].2).getD 0) true)):=by
  unfold sAlloc
  rw [if_neg hz,findIdx_at hlt hall h]
  simp [hlt]
theorem set_true_ok {r:SRow} (h:RowOk r) (s:Nat) (hs:s<r.2.length):RowOk (r.1,r.2.set s true):=by
  rcases h with ⟨_,h⟩ | ⟨h0,h3,hl,_⟩
  · rw [h] at hs; simp at hs
  · exact .inr ⟨h0,h3,by simpa using hl,List.mem_iff_getElem.2 ⟨s,by simpa using hs,by simp⟩⟩
theorem fresh_snoc (l:List SRow) (j:Nat) (h:j<l.length):freshOf (l.take (j+1))=if (l[j].1 == -1)=true∧(freshOf (l.take j) == -1)=true then (j:Int) else freshOf (l.take j):=by
  rw [List.take_succ_eq_append_getElem h]
  unfold freshOf
  rw [List.findIdx?_append]
  cases e:(l.take j).findIdx? isNone with
  | some i =>
    simp
  | none =>
    simp only [Option.none_or]
    by_cases hn:l[j].1=-1
    · simp [List.findIdx?_cons,isNone,hn]; omega
    · simp [List.findIdx?_cons,isNone,hn]
theorem sAlloc_none {k:Int} {l:List SRow} (hz:¬ cSlots k=0) (hall:∀ r ∈ l,rowFree k r=false) (h:l.findIdx? isNone=none):sAlloc k l=none:=by
  unfold sAlloc; rw [if_neg hz,findIdx_no hall,h]
theorem sAlloc_new {k:Int} {l:List SRow} {i:Nat} (hz:¬ cSlots k=0) (hall:∀ r ∈ l,rowFree k r=false) (h:l.findIdx? isNone=some i) :
    sAlloc k l=some (i,0,l.set i (k,(List.replicate (cSlots k).toNat false).set 0 true)):=by
  unfold sAlloc; rw [if_neg hz,findIdx_no hall,h]
  have e:true::List.replicate ((cSlots k).toNat - 1) false=(List.replicate (cSlots k).toNat false).set 0 true:=by
    have hp:(cSlots k).toNat=((cSlots k).toNat - 1)+1:=by
      have:cSlots k≠0:=hz
      have h2:0≤cSlots k:=by unfold cSlots; (repeat' split) <;> omega
      omega
    rw [hp,List.replicate_succ,List.set_cons_zero]; simp
  rw [e]
theorem new_ok {k:Int} (h0:0≤k) (h3:k<4) (s1:1≤cSlots k):RowOk (k,(List.replicate (cSlots k).toNat false).set 0 true):=by
  refine .inr ⟨h0,h3,by simp; omega,?_⟩
  exact List.mem_iff_getElem.2 ⟨0,by simp; omega,by simp⟩
theorem slots_pos {k:Int} (h:cSlots k≠0):0≤k∧k<4∧1≤cSlots k∧cSlots k≤8:=by
  by_cases hk:0≤k∧k<4
  · refine ⟨hk.1,hk.2,?_,?_⟩ <;> · unfold cSlots at h ⊢; (repeat' split) <;> omega
  · exact absurd (cSlots_none hk) h
set_option maxRecDepth 100000 in
set_option maxHeartbeats 1000000 in
theorem span_Alloc (b:Nat) (l:List SRow) (F:List Nat) (k:Int) (w:World) (hS:SpanAt w b l F) :
    Calls Try.prog 9 #[.pointer (some ⟨b,0,none⟩),.int .i64 k] w (SpanDoes (.returned (sAllocV k l)) b (sAllocL k l) F w):=by
  have HS:=Lib.hid hS
  by_cases hz:cSlots k=0
  · have e1:sAllocV k l=.tuple #[.int .i64 0,.int .i64 0,.bool false]:=by unfold sAllocV sAlloc; rw [if_pos hz]
    have e2:sAllocL k l=l:=by unfold sAllocL sAlloc; rw [if_pos hz]
    rw [e1,e2]
    have HZ:=Lib.hid hz
    clear e1 e2 hz hS
    go_enter Try.func9,Try.ntmps9
    go_wp2_with (go_at_call 52; refine (class_Slots _ _).mono ?_; rintro e w1 ⟨rfl,hb1⟩; rw [HZ.out])
    go_ret3
    exact ⟨rfl,HS.out.keep (Keeps.of_below (by assumption) []) (by simp),Keeps.of_below (by assumption) F⟩
  · obtain ⟨k0,k3,s1,s8⟩:=slots_pos hz
    have hz':(cSlots k == 0)=false:=by rw [beq_eq_false_iff_ne]; exact hz
    have HZ:=Lib.hid hz
    clear hz hS
    go_enter Try.func9,Try.ntmps9
    go_wp2_with fail
    refine (class_Slots _ _).mono ?_
    rintro e w1 ⟨rfl,hb1⟩
    have HS1:=Lib.hid (HS.out.keep (Keeps.of_below hb1 []) (by simp))
    have HK1:=Lib.hid (Keeps.of_below hb1 F)
    clear HS hb1
    obtain ⟨g,cap,hb,hr,hcap,hF,hn,hn2,hok⟩:=HS1.out
    have c0:=hb.cell 0
    simp at c0
    unfold maxLen at hcap
    have hlc:l.length≤cap:=by obtain ⟨_,_,_,h,_⟩:=hr; exact h
    have hgl:=hr.lt
    have hbl:=hb.lt
    have HR:=Lib.hid hr
    have HB:=Lib.hid hb
    have OK:=Lib.hid hok
    have HFm:=Lib.hid hF
    clear hr hb hok hF
    go_wp2
    go_loopw [8,26] (fun f i wr=>∃ j:Nat,j≤l.length∧i=.int .i64 j∧f=.int .i64 (freshOf (l.take j))∧Below w1.heap.size w1 wr∧Hid (∀ r ∈ l.take j,rowFree k r=false)) (fun _ i _=>l.length - (intOf i).toNat)
    case atStart=>exact ⟨0,by omega,rfl,rfl,Below.refl _ _,by intro r hr; simp at hr⟩
    case round =>
      obtain ⟨j,hj,rfl,rfl,hbr,hall⟩:=hrel
      by_cases hlt:j<l.length
      · obtain ⟨d0,d1,-,-⟩:=(HR.out.keep (Keeps.of_below hbr []) (by simp)).cells j hlt
        have hro:=OK.out _ (List.getElem_mem hlt)
        have hm:=hro.len
        have x0:wr.cell? ⟨b,0,none⟩=some (.slice (some ⟨g,0,none⟩) l.length cap):=(hbr.cell (p:=⟨b,0,none⟩) hbl).trans c0
        have i0:(0:Int)≤j:=by omega
        have i1:(j:Int)<l.length:=by omega
        have RO:=Lib.hid hro
        have HBR:=Lib.hid hbr
        clear hro hbr c0
        go_wp2_with fail
        refine (row_first _ _ (by omega) _).mono ?_
        rintro e w2 ⟨rfl,hb2⟩
        have hbW:Below wr.heap.size wr w2:=below_next ((Below.refl _ _).alloc (Nat.le_refl _) _) hb2 (Nat.le_refl _)
        have y0:w2.cell? ⟨wr.heap.size,0,none⟩=some (.int .i64 (l[j]'hlt).1):=(hb2.cell (p:=⟨wr.heap.size,0,none⟩) (by simp)).trans (by simp)
        have x2:w2.cell? ⟨b,0,none⟩=some (.slice (some ⟨g,0,none⟩) l.length cap):=(hbW.cell (p:=⟨b,0,none⟩) (Nat.lt_of_lt_of_le hbl HBR.out.size)).trans x0
        have HBR2:=Lib.hid (below_next HBR.out hbW (Nat.le_refl _))
        clear hb2 hbW x0 d0 d1 HBR
        cases hrf:rowFree k (l[j]'hlt) with
        | true =>
          have hrf':=hrf
          unfold rowFree at hrf'
          rw [Bool.and_eq_true,decide_eq_true_eq] at hrf'
          obtain ⟨hck,his⟩:=hrf'
          have hsl:=firstFree_lt his
          have hsa:=sAlloc_at hlt HZ.out hall.out hrf
          have hso:=set_true_ok RO.out _ hsl
          have hck':((l[j]'hlt).1 == k)=true:=by rw [beq_iff_eq]; exact hck
          have e1:sAllocV k l=.tuple #[.int .i64 j,.int .i64 ((firstFree (l[j]'hlt).2).getD 0:Nat),.bool true]:=by unfold sAllocV; rw [hsa]
          have e2:sAllocL k l=l.set j ((l[j]'hlt).1,(l[j]'hlt).2.set ((firstFree (l[j]'hlt).2).getD 0) true):=by unfold sAllocL; rw [hsa]
          obtain ⟨d0,d1,f0,f1⟩:=(HR.out.keep (Keeps.of_below HBR2.out []) (by simp)).cells j hlt
          have hset:=(HR.out.keep (Keeps.of_below HBR2.out []) (by simp)).set_marks j hlt ((l[j]'hlt).2.set ((firstFree (l[j]'hlt).2).getD 0) true)
          have E1:=Lib.hid e1
          have E2:=Lib.hid e2
          have SO:=Lib.hid hso
          have SET:=Lib.hid hset
          generalize hsn:(firstFree (l[j]'hlt).2).getD 0=s at *
          clear hrf hck hsa hso e1 e2 hset hsn hall RO
          have s0:(0:Int)≤s:=by omega
          go_wp2_with fail
          refine (row_turn g (j * 2) _ s true (by omega) hsl _ d1 f1).mono ?_
          rintro e w3 ⟨rfl,n,hw3⟩
          have fin:SpanDoes (.returned (sAllocV k l)) b (sAllocL k l) F w (.returned (.tuple #[.int .i64 j,.int .i64 s,.bool true])) w3:=by
            refine ⟨by rw [E1.out],?_,?_⟩
            · rw [E2.out]
              refine ⟨g,cap,?_,by rw [hw3]; exact SET.out,by unfold maxLen; omega,HFm.out,by simpa using hn,by simpa using hn2,set_ok OK.out j SO.out⟩
              rw [hw3]
              have:=(((Keeps.of_below HBR2.out []).blk HB.out (by simp)).far (p:=⟨g,j * 2+1,none⟩) (fun e=>(SpanAt.ne HB.out HR.out) e.symm) (.string (marks ((l[j]'hlt).2.set s true)))).drewN n
              simpa using this
            · rw [hw3]
              exact ((HK1.out.next HBR2.out).set (p:=⟨g,j * 2+1,none⟩) (by rw [HFm.out]; simp) _).drewN n
          have FIN:=Lib.hid fin
          clear fin hw3 d0 d1 f0 f1 SET y0 x2
          go_wp2
          go_ret3
          exact FIN.out
        | false =>
          have HF1:=Lib.hid (fresh_snoc l j hlt)
          have hall1:Hid (∀ r ∈ l.take (j+1),rowFree k r=false):=by
            intro r hr
            rw [List.take_succ_eq_append_getElem hlt] at hr
            rcases List.mem_append.1 hr with h | h
            · exact hall.out r h
            · simp at h; subst h; exact hrf
          have hc:(((l[j]'hlt).1 == k)=false) ∨ (((l[j]'hlt).1 == k)=true∧(firstFree (l[j]'hlt).2).isSome=false):=by
            unfold rowFree at hrf
            by_cases h:(l[j]'hlt).1=k
            · right
              exact ⟨by rw [beq_iff_eq]; exact h,by rw [decide_eq_true h,Bool.true_and] at hrf; exact hrf⟩
            · left; rw [beq_eq_false_iff_ne]; exact h
          clear hrf hall RO
          have hfin:∀ w3 v,(v=freshOf (l.take (j+1)))→w3=w2→∃ j',j'≤l.length∧Value.int .i64 ((j:Int)+1)=.int .i64 (j':Nat)∧Value.int .i64 v=.int .i64 (freshOf (l.take j'))∧Below w1.heap.size w1 w3∧Hid (∀ r ∈ l.take j',rowFree k r=false):=by
            rintro w3 v rfl rfl
            exact ⟨j+1,by omega,by go_num,rfl,HBR2.out,hall1⟩
          have FIN:=Lib.hid hfin
          clear hfin hall1
          generalize hfr:freshOf (l.take j)=fr at *
          have HFR:=Lib.hid hfr
          clear hfr
          generalize (l[j]'hlt).1=c at *
          cases h2:(c == -1) with
          | true =>
            cases h3:(fr == -1) with
            | true =>
              have hv:(j:Int)=freshOf (l.take (j+1)):=by rw [HF1.out,if_pos ⟨h2,h3⟩]
              have HV:=Lib.hid hv
              clear hv
              rcases hc with h1 | ⟨h1,h1'⟩
              all_goals
                go_wp2
                go_roundw
                case rel=>exact FIN.out _ _ HV.out rfl
                case measure=>simp [intOf]; omega
            | false =>
              have hv:fr=freshOf (l.take (j+1)):=by rw [HF1.out,if_neg (by rw [h3]; simp)]
              have HV:=Lib.hid hv
              clear hv
              rcases hc with h1 | ⟨h1,h1'⟩
              all_goals
                go_wp2
                go_roundw
                case rel=>exact FIN.out _ _ HV.out rfl
                case measure=>simp [intOf]; omega
          | false =>
            have hv:fr=freshOf (l.take (j+1)):=by rw [HF1.out,if_neg (by rw [h2]; simp)]
            have HV:=Lib.hid hv
            clear hv
            rcases hc with h1 | ⟨h1,h1'⟩
            all_goals
              go_wp2
              go_roundw
              case rel=>exact FIN.out _ _ HV.out rfl
              case measure=>simp [intOf]; omega
      · have hjl:j=l.length:=by omega
        subst hjl
        have HBR:=Lib.hid hbr
        have hall2:Hid (∀ r ∈ l,rowFree k r=false):=by have:=hall.out; rwa [List.take_length] at this
        rw [List.take_length]
        clear hall hbr
        have x0:wr.cell? ⟨b,0,none⟩=some (.slice (some ⟨g,0,none⟩) l.length cap):=(HBR.out.cell (p:=⟨b,0,none⟩) hbl).trans c0
        cases hfi:l.findIdx? isNone with
        | none =>
          have hsa:=sAlloc_none HZ.out hall2.out hfi
          have e1:sAllocV k l=.tuple #[.int .i64 0,.int .i64 0,.bool false]:=by unfold sAllocV; rw [hsa]
          have e2:sAllocL k l=l:=by unfold sAllocL; rw [hsa]
          have hfr:freshOf l=-1:=by unfold freshOf; rw [hfi]
          have fin:SpanDoes (.returned (sAllocV k l)) b (sAllocL k l) F w (.returned (.tuple #[.int .i64 0,.int .i64 0,.bool false])) wr:=by
            refine ⟨by rw [e1],by rw [e2]; exact HS1.out.keep (Keeps.of_below HBR.out []) (by simp),HK1.out.next HBR.out⟩
          have FIN:=Lib.hid fin
          rw [hfr]
          clear hsa e1 e2 hfi fin c0 hfr
          go_wp2
          go_ret3
          exact FIN.out
        | some i =>
          have hfr:freshOf l=i:=by unfold freshOf; rw [hfi]
          have hsa:=sAlloc_new HZ.out hall2.out hfi
          have e1:sAllocV k l=.tuple #[.int .i64 i,.int .i64 0,.bool true]:=by unfold sAllocV; rw [hsa]; rfl
          have e2:sAllocL k l=l.set i (k,(List.replicate (cSlots k).toNat false).set 0 true):=by unfold sAllocL; rw [hsa]
          have hil:i<l.length:=by rw [List.findIdx?_eq_some_iff_getElem] at hfi; exact hfi.1
          have hif:((i:Int) == -1)=false:=by rw [beq_eq_false_iff_ne]; omega
          have i0:(0:Int)≤i:=by omega
          have i1:(i:Int)<l.length:=by omega
          have E1:=Lib.hid e1
          have E2:=Lib.hid e2
          rw [hfr]
          clear hsa e1 e2 hfi hfr hall2
          have hne:g≠b:=SpanAt.ne HB.out HR.out
          have hne':¬ b=g:=fun e=>hne e.symm
          have fin:∀ w4,Below w1.heap.size w1 w4→w4.cell? ⟨b,0,none⟩=some (.slice (some ⟨g,0,none⟩) l.length cap)∧(∃ v,w4.cell? ⟨g,i * 2,none⟩=some v)∧(∃ v,w4.cell? ⟨g,i * 2+1,none⟩=some v)∧w4.frozen? ⟨g,i * 2,none⟩=false∧w4.frozen? ⟨g,i * 2+1,none⟩=false:=by
            intro w4 h4
            obtain ⟨d0,d1,f0,f1⟩:=(HR.out.keep (Keeps.of_below h4 []) (by simp)).cells i hil
            exact ⟨(h4.cell (p:=⟨b,0,none⟩) hbl).trans c0,⟨_,d0⟩,⟨_,d1⟩,f0,f1⟩
          have FIN:=Lib.hid fin
          clear fin
          have B0:Below w1.heap.size w1 wr.drew:=HBR.out.drew
          go_wp2
          go_region_held3 (fun (w':World)=>w'.cell? ⟨b,0,none⟩=some (.slice (some ⟨g,0,none⟩) l.length cap)) (first | assumption | go_keep)
            (first
              | (go_at_call 55; refine (repeat_slots k k0 k3 _).mono ?_; rintro e w4 ⟨rfl,hb4⟩; have B4:=below_next B0 hb4 (Nat.le_refl _); obtain ⟨y0,⟨v1,y1⟩,⟨v2,y2⟩,y3,y4⟩:=FIN.out w4 B4; clear hb4))
          have hX:=(HR.out.keep (Keeps.of_below B4 []) (by simp)).set_row i hil (k,List.replicate (cSlots k).toNat false)
          obtain ⟨-,z1,-,z3⟩:=hX.cells i (by simpa using hil)
          rw [List.getElem_set_self] at z1
          have HX:=Lib.hid hX
          have BB4:=Lib.hid B4
          have hrl:(List.replicate (cSlots k).toNat false).length≤1000:=by simp; omega
          have hrl0:0<(List.replicate (cSlots k).toNat false).length:=by simp; omega
          have RL:=Lib.hid hrl
          have RL0:=Lib.hid hrl0
          clear hX B4 B0 hrl hrl0 y1 y2
          go_wp2_with fail
          refine (row_turn g (i * 2) _ 0 true RL.out RL0.out _ z1 z3).mono ?_
          rintro e w5 ⟨rfl,n,hw5⟩
          have fin:SpanDoes (.returned (sAllocV k l)) b (sAllocL k l) F w (.returned (.tuple #[.int .i64 i,.int .i64 0,.bool true])) w5:=by
            have hs:=HX.out.set_marks i (by simpa using hil) ((List.replicate (cSlots k).toNat false).set 0 true)
            rw [List.getElem_set_self,List.set_set] at hs
            refine ⟨by rw [E1.out],?_,?_⟩
            · rw [E2.out]
              refine ⟨g,cap,?_,by rw [hw5]; exact hs,by unfold maxLen; omega,HFm.out,by simpa using hn,by simpa using hn2,set_ok OK.out i (new_ok k0 k3 s1)⟩
              rw [hw5]
              have hbb:=(Keeps.of_below BB4.out []).blk HB.out (by simp)
              have:=(((hbb.far (p:=⟨g,i * 2,none⟩) hne' (.int .i64 k)).far (p:=⟨g,i * 2+1,none⟩) hne' (.string (marks (List.replicate (cSlots k).toNat false)))).far (p:=⟨g,i * 2+1,none⟩) hne' (.string (marks ((List.replicate (cSlots k).toNat false).set 0 true)))).drewN n
              simpa using this
            · rw [hw5]
              have hg:g ∈ F:=by rw [HFm.out]; simp
              exact ((((HK1.out.next BB4.out).set (p:=⟨g,i * 2,none⟩) (.inl hg) _).set (p:=⟨g,i * 2+1,none⟩) (.inl hg) _).set (p:=⟨g,i * 2+1,none⟩) (.inl hg) _).drewN n
          have FIN2:=Lib.hid fin
          clear fin hw5 z1 z3
          go_wp2
          go_ret3
          exact FIN2.out
end Go.Proofs.Ytffnjpapggidlaa
namespace Go.Proofs.Ytffnjpapggidlaa
open Go.RowKit
theorem info_row:(Try.prog.info? 85).map (fun i=>(i.zero,i.size,i.bytes))=some (some (.agg #[.int .i64 0,.string ⟨#[]⟩]),2,24):=by kernel_rfl
def flatRows (l:List SRow):List Value:=l.flatMap fun r=>[.int .i64 r.1,.string (marks r.2)]
theorem flatRows_len (l:List SRow):(flatRows l).length=l.length * 2:=by
  induction l with
  | nil=>rfl
  | cons r l ih=>simp only [flatRows,List.flatMap_cons,List.length_append,List.length_cons,List.length_nil] at *; omega
theorem flatRows_at (l:List SRow):∀ i (h:i<l.length),(flatRows l)[i * 2]?=some (.int .i64 (l[i]'h).1)∧(flatRows l)[i * 2+1]?=some (.string (marks (l[i]'h).2)):=by
  induction l with
  | nil=>intro i h; simp at h
  | cons r l ih =>
    intro i h
    cases i with
    | zero=>exact ⟨rfl,rfl⟩
    | succ i =>
      obtain ⟨a,b⟩:=ih i (by simpa using h)
      have e:flatRows (r::l)=.int .i64 r.1::.string (marks r.2)::flatRows l:=rfl
      rw [e,show (i+1) * 2=i * 2+1+1 by omega]
      exact ⟨by simpa using a,by simpa using b⟩
theorem rows_of_own {w:World} {g cap:Nat} {l:List SRow} (h:w.ownsRow 0 85 2 (.slice (some ⟨g,0,none⟩) l.length cap) l.length (flatRows l)):RowsAt w g cap l:=by
  obtain ⟨hl,⟨h0,_⟩ | ⟨g',cap',cur,hv,hB,hg,hn,hm,hs,ht⟩⟩:=h
  · cases h0
  · injection hv with e1 e2 e3
    injection e1 with e1
    injection e1 with e1
    subst e1 e3
    refine ⟨cur,hg,hs,hn,fun i hi=>?_⟩
    obtain ⟨a,b⟩:=flatRows_at l i hi
    rw [← ht] at a b
    rw [List.getElem?_take_of_lt (by omega)] at a b
    exact ⟨by simpa using a,by simpa using b⟩
def GivesSpan (l:List SRow) (w:World) (e:Ending) (w':World):Prop :=
  e=.returned (.tuple #[.pointer (some ⟨w.heap.size,0,none⟩),.int .i64 0])∧∃ F,SpanAt w' w.heap.size l F∧Keeps [] w w'∧∀ i ∈ F,w.heap.size≤i
theorem span_New_no (n:Int) (hn:n<2 ∨ 128<n) (w:World) :
    Calls Try.prog 7 #[.int .i64 n] w fun e w'=>e=.returned (.tuple #[.pointer none,.int .i64 1])∧w=w':=by
  rcases hn with h | h
  · go_enter Try.func7,Try.ntmps7
    go_wp2
    go_ret2
    exact ⟨rfl,rfl⟩
  · have h2:(n<2)=False:=by simp; omega
    have h2':¬ n<2:=by omega
    clear h2
    go_enter Try.func7,Try.ntmps7
    go_wp2
    go_ret2
    exact ⟨rfl,rfl⟩
set_option maxRecDepth 100000 in
set_option maxHeartbeats 1000000 in
theorem span_New (n:Nat) (h2:2≤n) (h128:n≤128) (w:World) :
    Calls Try.prog 7 #[.int .i64 n] w (GivesSpan (sNew n) w):=by
  obtain ⟨i0,hi,hz0,hz1,hz2⟩:=info_parts info_row
  go_enter Try.func7,Try.ntmps7
  go_wp2
  go_loopw [14] (fun i wr=>∃ (k:Nat) (lv:Value),k≤n∧i=.int .i64 k∧Blk wr w.heap.size 83 #[lv]∧wr.ownsRow 0 85 2 lv k (flatRows (List.replicate k noRow))∧Keeps [] w wr∧Hid (∀ g,lv.ownBlock=some g→w.heap.size≤g)) (fun i _=>n - (intOf i).toNat)
  case atStart=>exact ⟨0,.slice none 0 0,by omega,rfl,Blk.new _ _ _,World.ownsRow_nil _ _ _ _,(Keeps.refl _ _).alloc _,by intro g hg; cases hg⟩
  case round =>
    obtain ⟨k,lv,hk,rfl,hb,hown,hkp,hfr⟩:=hrel
    have c0:=hb.cell 0
    have f0:=hb.free 0
    simp at c0
    by_cases hlt:k<n
    · have hne:=own_type hown hb (by decide)
      have HK:=Lib.hid hkp
      have hbl:=hb.lt
      clear hkp
      go_wp2_with (at_builtin; refine wpList_append_own_at _ rfl (.tmp 20) (.tmp 22) 81 rfl 0 85 i0 (.agg #[.int .i64 0,.string ⟨#[]⟩]) 2 24 Try.underlying81 hi hz0 hz1 hz2 rfl (by decide) _ k (flatRows (List.replicate k noRow)) rfl (hown.alloc _) ⟨wr.heap.size,0,none⟩ 1 1 [.int .i64 (-1),.string ⟨#[]⟩] rfl rfl ?c1 ?c2 ?c3 ?c4 ?c5 ?_)
      case c1=>exact cell_two_new _ _ _ _
      case c2=>intro u hu; simp at hu; rcases hu with rfl | rfl <;> rfl
      case c3=>unfold maxLen; omega
      case c4=>omega
      case c5=>omega
      intro v' w2 hown2 hg2 _ hat
      obtain ⟨g,cap,hv,-⟩:=own_form hown2 (by omega)
      subst hv
      have hsz:=hg2.size
      simp at hsz
      have hB2:Blk w2 w.heap.size 83 #[lv]:=(hb.alloc _).of_eq (hg2.block _ (by simp; omega) (by intro e; exact hne _ e.symm rfl))
      have e0:=hB2.cell 0
      have g0:=hB2.free 0
      simp at e0
      have hne2:g≠w.heap.size:=own_type hown2 hB2 (by decide) g rfl
      have hfr2:w.heap.size≤g:=by
        rcases hat with h | h
        · exact hfr.out g h.symm
        · injection h with hg; have:=HK.out.size; (try simp at hg); omega
      have hk2:Keeps [] w w2:=(HK.out.alloc _).grown hg2 (fun k hk=>.inr (hfr.out k hk))
      have HK2:=Lib.hid hk2
      have O2:=Lib.hid hown2
      have NE2:=Lib.hid hne2
      clear hat hne hg2 hown hk2 hown2 hne2 hb
      go_wp2
      go_roundw
      case rel =>
        refine ⟨k+1,.slice (some ⟨g,0,none⟩) (k+1) cap,by omega,by go_num,?_,?_,HK2.out.set (.inr (Nat.le_refl _)) _,fun g' hg'=>by cases hg'; exact hfr2⟩
        · simpa using hB2.set 0 (.slice (some ⟨g,0,none⟩) (k+1) cap)
        · have h3:=((Keeps.refl [w.heap.size] w2).set (p:=⟨w.heap.size,0,none⟩) (by simp) (.slice (some ⟨g,0,none⟩) (k+1) cap)).own O2.out (by intro k hk; injection hk with hk; subst hk; simpa using NE2.out)
          have e:flatRows (List.replicate (k+1) noRow)=flatRows (List.replicate k noRow) ++ [Value.int IntKind.i64 (-1),Value.string { data:=#[] }]:=by
            rw [List.replicate_succ',flatRows,List.flatMap_append]; rfl
          rw [e]; exact h3
      case measure=>simp [intOf]; omega
    · have hkn:k=n:=by omega
      subst hkn
      obtain ⟨g,cap,hv,hnc,hcm,hg⟩:=own_form hown (by omega)
      subst hv
      have HB:=Lib.hid hb
      have HO:=Lib.hid hown
      have HK:=Lib.hid hkp
      clear hb hown hkp
      go_wp2
      go_ret2
      have hro:wr.ownsRow 0 85 2 (.slice (some ⟨g,0,none⟩) (List.replicate k noRow).length cap) (List.replicate k noRow).length (flatRows (List.replicate k noRow)):=by rw [List.length_replicate]; exact HO.out
      have hf:=hfr.out g rfl
      refine ⟨rfl,[w.heap.size,g],⟨g,cap,by unfold sNew; rw [List.length_replicate]; exact HB.out,rows_of_own hro,hcm,rfl,by simp [sNew]; omega,by simp [sNew]; omega,?_⟩,HK.out,?_⟩
      · intro r hr
        have:=List.eq_of_mem_replicate hr
        subst this; exact .inl ⟨rfl,rfl⟩
      · intro i hi
        simp at hi
        rcases hi with rfl | rfl
        · exact Nat.le_refl _
        · exact hf
theorem span_Len_nil (w:World):Calls Try.prog 51 #[.pointer none] w fun e w'=>e=.returned (.int .i64 0)∧w=w':=by
  go_enter Try.func51,Try.ntmps51
  go_wp2
  go_ret
  exact ⟨rfl,rfl⟩
theorem span_Class_nil (a:Int) (w:World):Calls Try.prog 10 #[.pointer none,.int .i64 a] w fun e w'=>e=.returned (.int .i64 (-1))∧w=w':=by
  go_enter Try.func10,Try.ntmps10
  go_wp2
  go_ret
  exact ⟨rfl,rfl⟩
theorem span_Used_nil (a s:Int) (w:World):Calls Try.prog 12 #[.pointer none,.int .i64 a,.int .i64 s] w fun e w'=>e=.returned (.bool false)∧w=w':=by
  go_enter Try.func12,Try.ntmps12
  go_wp2_with (go_at_call 10; refine (span_Class_nil _ _).mono ?_; rintro e w' ⟨rfl,rfl⟩)
  go_ret
  exact ⟨rfl,rfl⟩
theorem span_Free_nil (a s:Int) (w:World):Calls Try.prog 11 #[.pointer none,.int .i64 a,.int .i64 s] w fun e w'=>e=.returned (.bool false)∧w=w':=by
  go_enter Try.func11,Try.ntmps11
  go_wp2_with (go_at_call 12; refine (span_Used_nil _ _ _).mono ?_; rintro e w' ⟨rfl,rfl⟩)
  go_ret
  exact ⟨rfl,rfl⟩
theorem span_Alloc_nil (k:Int) (w:World):Calls Try.prog 9 #[.pointer none,.int .i64 k] w fun e w'=>e=.returned (.tuple #[.int .i64 0,.int .i64 0,.bool false])∧Below w.heap.size w w':=by
  go_enter Try.func9,Try.ntmps9
  go_wp2_with (go_at_call 52; refine (class_Slots _ _).mono ?_; rintro e w' ⟨rfl,hb⟩)
  go_ret3
  exact ⟨rfl,by assumption⟩
theorem span_Words_nil (w:World):Calls Try.prog 14 #[.pointer none] w fun e w'=>e=.returned (.int .i64 0)∧w=w':=by
  go_enter Try.func14,Try.ntmps14
  go_wp2_with (go_at_call 51; refine (span_Len_nil _).mono ?_; rintro e w' ⟨rfl,rfl⟩)
  refine wp_loop_rounds 1 ?_
  rw [rounds_succ]
  go_wp2
  go_ret
  exact ⟨rfl,rfl⟩
end Go.Proofs.Ytffnjpapggidlaa
namespace Go.Proofs.Ytffnjpapggidlaa
theorem sUsed_nat (l:List SRow) (i t:Nat):sUsed l i t=(match l[i]? with | some r=>r.2[t]? == some true | none=>false):=by
  unfold sUsed
  rw [decide_eq_true (⟨by omega,by omega⟩:(0:Int)≤i∧(0:Int)≤t)]
  simp only [Int.toNat_natCast,Bool.true_and]
  rfl
theorem sClass_nat (l:List SRow) (i:Nat):sClass l i=(match l[i]? with | some r=>r.1 | none=>-1):=by
  unfold sClass
  rw [if_pos (by omega:(0:Int)≤i)]
  simp only [Int.toNat_natCast]
  rfl
theorem sUsed_iff {l:List SRow} {i t:Nat}:sUsed l i t=true ↔ ∃ r,l[i]?=some r∧r.2[t]?=some true:=by
  rw [sUsed_nat]
  cases h:l[i]? with
  | none=>simp
  | some r=>simp
theorem sClass_at {l:List SRow} {i:Nat} {r:SRow} (h:l[i]?=some r):sClass l i=r.1:=by rw [sClass_nat,h]
def nW (l:List SRow) (i:Nat):Nat:=(cWords (sClass l i)).toNat
theorem ws_geo {k:Int} (h0:0≤k) (h3:k<4):((cWords k).toNat=4 ∨ (cWords k).toNat=8 ∨ (cWords k).toNat=16 ∨ (cWords k).toNat=32)∧(cSlots k).toNat * (cWords k).toNat=32∧cWords k=((cWords k).toNat:Int):=by
  rcases (show k=0 ∨ k=1 ∨ k=2 ∨ k=3 by omega) with rfl | rfl | rfl | rfl <;> decide
theorem slot_fit {t s W:Nat} (h:t<s) (e:s * W=32):t * W+W≤32:=by
  rw [← e,← Nat.succ_mul]
  exact Nat.mul_le_mul_right _ h
theorem used_geo {l:List SRow} (hok:∀ r ∈ l,RowOk r) {i u:Nat} (h:sUsed l i u=true):i<l.length∧(nW l i=4 ∨ nW l i=8 ∨ nW l i=16 ∨ nW l i=32)∧u * nW l i+nW l i≤32∧0≤sClass l i∧sClass l i<4∧cWords (sClass l i)=(nW l i:Int):=by
  obtain ⟨r,hr,hu⟩:=sUsed_iff.1 h
  obtain ⟨hi,_⟩:=List.getElem?_eq_some_iff.1 hr
  have hm:r ∈ l:=List.mem_of_getElem? hr
  obtain ⟨hlt,_⟩:=List.getElem?_eq_some_iff.1 hu
  unfold nW
  rw [sClass_at hr]
  rcases hok r hm with ⟨_,h2⟩ | ⟨h0,h3,hl,_⟩
  · rw [h2] at hlt; simp at hlt
  · obtain ⟨a,b,c⟩:=ws_geo h0 h3
    exact ⟨hi,a,slot_fit (by omega) b,h0,h3,c⟩
theorem none_used {l:List SRow} (hok:∀ r ∈ l,RowOk r) {i:Nat} (h:sClass l i=-1) (u:Nat):sUsed l i u=false:=by
  cases e:sUsed l i u with
  | false=>rfl
  | true=>obtain ⟨_,_,_,a,_⟩:=used_geo hok e; omega
theorem class_far {l l':List SRow} {j:Nat} (h:l'[j]?=l[j]?):sClass l' j=sClass l j:=by rw [sClass_nat,sClass_nat,h]
theorem used_far {l l':List SRow} {j u:Nat} (h:l'[j]?=l[j]?):sUsed l' j u=sUsed l j u:=by rw [sUsed_nat,sUsed_nat,h]
structure AllocFacts (k:Int) (l:List SRow) (i t:Nat) (l':List SRow):Prop where
  lt:i<l.length
  k0:0≤k
  k3:k<4
  slot:t<(cSlots k).toNat
  len:l'.length=l.length
  cls:sClass l' i=k
  far:∀ j:Nat,j≠i→l'[j]?=l[j]?
  old:sClass l i=k ∨ sClass l i=-1
  new:sUsed l i t=false
  use:∀ u:Nat,sUsed l' i u=(sUsed l i u || u == t)
  ok:∀ r ∈ l',RowOk r
theorem firstFree_at {m:List Bool} (h:(firstFree m).isSome=true):m[(firstFree m).getD 0]?=some false:=by
  obtain ⟨s,hs⟩:=Option.isSome_iff_exists.1 h
  rw [hs]
  unfold firstFree at hs
  rw [List.findIdx?_eq_some_iff_getElem] at hs
  obtain ⟨h1,h2,_⟩:=hs
  rw [Option.getD_some,List.getElem?_eq_getElem h1]
  simpa using h2
theorem alloc_facts {k:Int} {l:List SRow} (hok:∀ r ∈ l,RowOk r) {i t:Nat} {l':List SRow} (h:sAlloc k l=some (i,t,l')):AllocFacts k l i t l':=by
  unfold sAlloc at h
  split at h
  · cases h
  rename_i hz
  obtain ⟨k0,k3,s1,s8⟩:=slots_pos hz
  split at h
  · rename_i j hj
    rw [List.findIdx?_eq_some_iff_getElem] at hj
    obtain ⟨hlt,hr,_⟩:=hj
    simp only [hlt,List.getElem?_eq_getElem,Option.getD_some] at h
    injection h with h
    injection h with e1 h
    injection h with e2 e3
    subst e1
    unfold rowFree at hr
    rw [Bool.and_eq_true,decide_eq_true_eq] at hr
    obtain ⟨hc,hf⟩:=hr
    have hs:=firstFree_lt hf
    have hsf:=firstFree_at hf
    rw [e2] at hs hsf e3
    have hmo:=hok _ (List.getElem_mem hlt)
    have hll:(l[j].2.length:Int)=cSlots k:=by
      rcases hmo with ⟨h1,_⟩ | ⟨_,_,h3,_⟩
      · omega
      · rw [h3,hc]
    subst e3
    have hgi:l[j]?=some l[j]:=List.getElem?_eq_getElem hlt
    have hgn:(l.set j (l[j].1,l[j].2.set t true))[j]?=some (l[j].1,l[j].2.set t true):=by simp [hlt]
    refine ⟨hlt,k0,k3,by omega,by simp,by rw [sClass_at hgn]; exact hc,fun x hx=>by rw [List.getElem?_set_ne (by omega)],.inl (by rw [sClass_at hgi]; exact hc),?_,?_,set_ok hok _ (set_true_ok hmo t hs)⟩
    · rw [sUsed_nat,hgi]; simp only; rw [hsf]; rfl
    · intro u
      rw [sUsed_nat,sUsed_nat,hgi,hgn]
      simp only
      rw [List.getElem?_set]
      by_cases e:t=u
      · subst e; rw [if_pos rfl,if_pos hs]; simp
      · rw [if_neg e,beq_eq_false_iff_ne.2 (fun x=>e x.symm),Bool.or_false]
  · split at h
    · rename_i j hj
      rw [List.findIdx?_eq_some_iff_getElem] at hj
      obtain ⟨hlt,hr,_⟩:=hj
      injection h with h
      injection h with e1 h
      injection h with e2 e3
      subst e1
      subst e2
      subst e3
      unfold isNone at hr
      rw [decide_eq_true_eq] at hr
      have hmo:=hok _ (List.getElem_mem hlt)
      have hgi:l[j]?=some l[j]:=List.getElem?_eq_getElem hlt
      have hgn:(l.set j (k,true::List.replicate ((cSlots k).toNat - 1) false))[j]?=some (k,true::List.replicate ((cSlots k).toNat - 1) false):=by simp [hlt]
      have hcl:sClass l j=-1:=by rw [sClass_at hgi]; exact hr
      have hro:RowOk (k,true::List.replicate ((cSlots k).toNat - 1) false):=.inr ⟨k0,k3,by simp; omega,by simp⟩
      refine ⟨hlt,k0,k3,by omega,by simp,by rw [sClass_at hgn],fun x hx=>by rw [List.getElem?_set_ne (by omega)],.inr hcl,none_used hok hcl 0,?_,set_ok hok _ hro⟩
      intro u
      rw [none_used hok hcl u,sUsed_nat,hgn]
      simp only
      cases u with
      | zero=>rfl
      | succ u =>
        rw [List.getElem?_cons_succ,List.getElem?_replicate]
        split <;> rfl
    · cases h
structure FreeFacts (l:List SRow) (i u:Nat) (l':List SRow):Prop where
  len:l'.length=l.length
  ok:∀ r ∈ l',RowOk r
  use:∀ j v:Nat,sUsed l' j v=(sUsed l j v && !(j == i && v == u))
  cls:∀ j v:Nat,sUsed l' j v=true→sClass l' j=sClass l j
theorem used_zero {m:List Bool} (h:used m=0) (v:Nat):(m[v]? == some true)=false:=by
  cases e:m[v]? with
  | none=>rfl
  | some b =>
    cases b with
    | false=>rfl
    | true=>exact absurd (List.count_eq_zero.1 h) (by simpa using List.mem_of_getElem? e)
theorem free_facts {l:List SRow} (hok:∀ r ∈ l,RowOk r) {i u:Nat} (h:sUsed l i u=true):FreeFacts l i u (sFree l i u):=by
  obtain ⟨i',k,hi,hk,e1,e2,hv,hf⟩:=sUsed_some h
  have e1:i=i':=by omega
  have e2:u=k:=by omega
  subst e1 e2
  rw [hf]
  have hmo:=hok _ (List.getElem_mem hi)
  have hgi:l[i]?=some l[i]:=List.getElem?_eq_getElem hi
  have hgn:(l.set i (freeRow l[i] u))[i]?=some (freeRow l[i] u):=by simp [hi]
  have huse:∀ j v:Nat,sUsed (l.set i (freeRow l[i] u)) j v=(sUsed l j v && !(j == i && v == u)):=by
    intro j v
    by_cases e:j=i
    · subst e
      rw [sUsed_nat,sUsed_nat,hgn,hgi]
      simp only [beq_self_eq_true,Bool.true_and]
      unfold freeRow
      split
      · rename_i hz
        have h0:=used_zero hz v
        rw [List.getElem?_set] at h0
        by_cases e:u=v
        · subst e; simp [noRow]
        · rw [if_neg e] at h0; rw [h0]; simp [noRow]
      · simp only
        rw [List.getElem?_set]
        by_cases e:u=v
        · subst e; rw [if_pos rfl,if_pos hk]; simp
        · rw [if_neg e,beq_eq_false_iff_ne.2 (fun x=>e x.symm)]; simp
    · rw [used_far (l:=l) (by rw [List.getElem?_set_ne (by omega)]),beq_eq_false_iff_ne.2 e]; simp
  refine ⟨by simp,set_ok hok _ (freeRow_ok hmo u hk),huse,?_⟩
  intro j v hjv
  by_cases e:j=i
  · subst e
    rw [sUsed_nat,hgn] at hjv
    simp only at hjv
    rw [sClass_at hgn,sClass_at hgi]
    unfold freeRow at hjv ⊢
    split
    · rename_i hz; rw [if_pos hz] at hjv; simp [noRow] at hjv
    · rfl
  · exact class_far (by rw [List.getElem?_set_ne (by omega)])
end Go.Proofs.Ytffnjpapggidlaa
namespace Go.Proofs.Ytffnjpapggidlaa
inductive ACell where
  | none | head (k n:Int) | word (w:Int)
deriving DecidableEq
structure ASt where
  l:List SRow
  c:List ACell
def aHead (c:List ACell) (a:Int):Option (Int×Int) :=
  if 0≤a then (match c[a.toNat]? with | some (.head k n)=>some (k,n) | _=>none) else none
def aKind (c:List ACell) (a:Int):Int:=match aHead c a with | some h=>h.1 | none=>0
def aLen (c:List ACell) (a:Int):Int:=match aHead c a with | some h=>h.2 | none=>0
def aFill (c:List ACell) (p:Nat) (v:ACell):Nat→List ACell
  | 0=>c
  | n+1=>(aFill c p v n).set (p+n) v
theorem aFill_len (c:List ACell) (p:Nat) (v:ACell) (n:Nat):(aFill c p v n).length=c.length:=by
  induction n with
  | zero=>rfl
  | succ n ih=>simp [aFill,ih]
theorem aFill_get (c:List ACell) (p:Nat) (v:ACell) (n q:Nat):(aFill c p v n)[q]?=if p≤q∧q<p+n∧q<c.length then some v else c[q]?:=by
  induction n with
  | zero=>rw [if_neg (by omega)]; rfl
  | succ n ih =>
    unfold aFill
    rw [List.getElem?_set,aFill_len,ih]
    by_cases e:p+n=q
    · subst e
      rw [if_pos rfl]
      by_cases hl:p+n<c.length
      · rw [if_pos hl,if_pos ⟨by omega,by omega,hl⟩]
      · rw [if_neg hl,if_neg (by omega),List.getElem?_eq_none (by omega)]
    · rw [if_neg e]
      by_cases h:p≤q∧q<p+n∧q<c.length
      · rw [if_pos h,if_pos ⟨h.1,by omega,h.2.2⟩]
      · rw [if_neg h,if_neg (by omega)]
def aBad (kind n:Int):Bool:=decide (kind<1) || decide (6<kind) || !cFits n
def aAlloc (kind n:Int) (s:ASt):Option (Nat×ASt) :=
  match sAlloc (cOf n) s.l with
  | some (i,t,l')=>some (i * 32+t * (cWords (cOf n)).toNat,⟨l',aFill (s.c.set (i * 32+t * (cWords (cOf n)).toNat) (.head kind n)) (i * 32+t * (cWords (cOf n)).toNat+1) (.word 0) n.toNat⟩)
  | none=>none
def aAllocV (kind n:Int) (s:ASt):Value :=
  if aBad kind n then .tuple #[.int .i64 0,.int .i64 1] else match aAlloc kind n s with
  | some (p,_)=>.tuple #[.int .i64 p,.int .i64 0]
  | none=>.tuple #[.int .i64 0,.int .i64 9]
def aAllocS (kind n:Int) (s:ASt):ASt :=
  if aBad kind n then s else match aAlloc kind n s with
  | some (_,s')=>s'
  | none=>s
def aFreeS (a:Int) (s:ASt):ASt:=match aHead s.c a with
  | some h=>⟨sFree s.l (a.toNat / 32:Nat) (a.toNat % 32 / nW s.l (a.toNat / 32):Nat),aFill s.c a.toNat .none (h.2.toNat+1)⟩
  | none=>s
def aFreeE (a:Int) (s:ASt):Int:=if (aHead s.c a).isSome then 0 else 8
def wordOf:Option ACell→Int
  | some (.word w)=>w
  | _=>0
def aErr (a i:Int) (s:ASt):Int:=match aHead s.c a with
  | some h=>if 0≤i∧i<h.2 then 0 else 1
  | none=>8
def aWord (a i:Int) (s:ASt):Int:=if aErr a i s=0 then wordOf s.c[a.toNat+1+i.toNat]? else 0
def aStoreS (a i w:Int) (s:ASt):ASt:=if aErr a i s=0 then ⟨s.l,s.c.set (a.toNat+1+i.toNat) (.word w)⟩ else s
def aObjects (c:List ACell):List Nat:=(List.range c.length).filter fun p=>(aHead c p).isSome
def aNew (n:Nat):ASt:=⟨sNew n,List.replicate (32 * n) .none⟩
structure AOk (s:ASt):Prop where
  rows:∀ r ∈ s.l,RowOk r
  len:s.c.length=32 * s.l.length
  head:∀ (p:Nat) (k n:Int),s.c[p]?=some (.head k n)→∃ i u:Nat,p=i * 32+u * nW s.l i∧sUsed s.l i u=true∧1≤k∧k≤6∧0≤n∧n.toNat<nW s.l i∧∀ j,j<n.toNat→∃ w,s.c[p+1+j]?=some (.word w)
  slot:∀ i u:Nat,sUsed s.l i u=true→∃ k n,s.c[i * 32+u * nW s.l i]?=some (.head k n)
theorem coord {W i t j:Nat} (hW:W=4 ∨ W=8 ∨ W=16 ∨ W=32) (ht:t * W+W≤32) (hj:j<W):(i * 32+t * W+j) / 32=i∧(i * 32+t * W+j) % 32 / W=t∧(i * 32+t * W+j) % 32 % W=j:=by
  rcases hW with rfl | rfl | rfl | rfl <;> omega
theorem slots_apart {W i t j W' i' t' j':Nat} (hW:W=4 ∨ W=8 ∨ W=16 ∨ W=32) (ht:t * W+W≤32) (hj:j<W) (hW':W'=4 ∨ W'=8 ∨ W'=16 ∨ W'=32) (ht':t' * W'+W'≤32) (hj':j'<W') (hs:i=i'→W=W') (e:i * 32+t * W+j=i' * 32+t' * W'+j'):i=i'∧t=t'∧j=j':=by
  obtain ⟨a,b,c⟩:=coord (i:=i) hW ht hj
  obtain ⟨a',b',c'⟩:=coord (i:=i') hW' ht' hj'
  have ei:i=i':=by rw [← a,e,a']
  have eW:=hs ei
  subst eW
  exact ⟨ei,by rw [← b,e,b'],by rw [← c,e,c']⟩
theorem aHead_some {c:List ACell} {a k n:Int} (h:aHead c a=some (k,n)):∃ p:Nat,a=p∧c[p]?=some (.head k n):=by
  unfold aHead at h
  split at h
  · rename_i h0
    obtain ⟨p,rfl⟩:=Int.eq_ofNat_of_zero_le h0
    simp only [Int.toNat_natCast] at h
    split at h
    · rename_i k' n' hc
      injection h with h
      injection h with e1 e2
      subst e1 e2
      exact ⟨p,rfl,hc⟩
    · cases h
  · cases h
theorem aHead_nat {c:List ACell} {p:Nat} {k n:Int} (h:c[p]?=some (.head k n)):aHead c p=some (k,n):=by
  unfold aHead
  rw [if_pos (by omega)]
  simp only [Int.toNat_natCast]
  rw [h]
theorem aNew_ok (n:Nat):AOk (aNew n):=by
  refine ⟨?_,by simp [aNew,sNew],?_,?_⟩
  · intro r hr
    have:=List.eq_of_mem_replicate hr
    subst this; exact .inl ⟨rfl,rfl⟩
  · intro p k m h
    simp only [aNew,List.getElem?_replicate] at h
    split at h <;> simp at h
  · intro i u h
    obtain ⟨r,hr,hu⟩:=sUsed_iff.1 h
    simp only [aNew,sNew,List.getElem?_replicate] at hr
    split at hr
    · injection hr with hr; subst hr; simp [noRow] at hu
    · cases hr
theorem cOf_fits {n:Int} (h:cFits n=true):0≤n∧n<32∧0≤cOf n∧cOf n<4∧n.toNat<(cWords (cOf n)).toNat:=by
  unfold cFits at h
  rw [decide_eq_true_eq] at h
  refine ⟨h.1,h.2,?_⟩
  unfold cOf
  split
  · exact ⟨by omega,by omega,by rw [show (cWords 0).toNat=4 from rfl]; omega⟩
  split
  · exact ⟨by omega,by omega,by rw [show (cWords 1).toNat=8 from rfl]; omega⟩
  split
  · exact ⟨by omega,by omega,by rw [show (cWords 2).toNat=16 from rfl]; omega⟩
  split
  · exact ⟨by omega,by omega,by rw [show (cWords 3).toNat=32 from rfl]; omega⟩
  · omega
theorem aBad_no {kind n:Int} (h:aBad kind n=false):1≤kind∧kind≤6∧cFits n=true:=by
  unfold aBad at h
  simp at h
  exact ⟨h.1.1,h.1.2,h.2⟩
theorem alloc_ok {kind n:Int} {s:ASt} (hok:AOk s) (hb:aBad kind n=false) {p:Nat} {s':ASt} (h:aAlloc kind n s=some (p,s')):AOk s'∧s'.c.length=s.c.length∧s'.l.length=s.l.length∧p+1+n.toNat≤s.c.length:=by
  obtain ⟨k1,k6,hf⟩:=aBad_no hb
  obtain ⟨n0,n32,c0,c3,nW'⟩:=cOf_fits hf
  unfold aAlloc at h
  split at h
  · rename_i i t l' ha
    injection h with h
    injection h with e1 e2
    have fa:=alloc_facts hok.rows ha
    obtain ⟨gW,gs,gc⟩:=ws_geo c0 c3
    have gt:=slot_fit fa.slot gs
    generalize hWd:(cWords (cOf n)).toNat=W at *
    have hni:nW l' i=W:=by unfold nW; rw [fa.cls,hWd]
    have hlt:=fa.lt
    have hL:=hok.len
    -- a used slot is another one
    have hap:∀ (i' u j m:Nat),sUsed s.l i' u=true→j<nW s.l i'→m<W→i' * 32+u * nW s.l i'+j≠i * 32+t * W+m:=by
      intro i' u j m hu hj hm e
      obtain ⟨_,uW,ut,_⟩:=used_geo hok.rows hu
      have hcl:i'=i→nW s.l i'=W:=by
        intro ei
        subst ei
        rcases fa.old with h | h
        · unfold nW; rw [h,hWd]
        · rw [none_used hok.rows h u] at hu; cases hu
      obtain ⟨a,b,c⟩:=slots_apart uW ut hj gW gt hm hcl e
      subst a b
      rw [fa.new] at hu; cases hu
    have hkeep:∀ i' u:Nat,sUsed s.l i' u=true→nW l' i'=nW s.l i':=by
      intro i' u hu
      by_cases e:i'=i
      · subst e
        rcases fa.old with h | h
        · unfold nW; rw [h,fa.cls]
        · rw [none_used hok.rows h u] at hu; cases hu
      · unfold nW; rw [class_far (fa.far i' e)]
    have hget:∀ q:Nat,s'.c[q]?=if i * 32+t * W+1≤q∧q<i * 32+t * W+1+n.toNat then some (.word 0) else if q=i * 32+t * W then some (.head kind n) else s.c[q]?:=by
      intro q
      rw [← e2]
      simp only
      rw [aFill_get,List.length_set]
      by_cases h1:i * 32+t * W+1≤q∧q<i * 32+t * W+1+n.toNat
      · rw [if_pos h1,if_pos ⟨h1.1,h1.2,by omega⟩]
      · rw [if_neg h1,if_neg (by omega),List.getElem?_set]
        by_cases h2:q=i * 32+t * W
        · rw [if_pos h2,if_pos h2.symm,if_pos (by omega)]
        · rw [if_neg h2,if_neg (fun x=>h2 x.symm)]
    have el:s'.l=l':=by rw [← e2]
    have ec:s'.c.length=s.c.length:=by rw [← e2]; simp only; rw [aFill_len,List.length_set]
    refine ⟨⟨by rw [el]; exact fa.ok,by rw [ec,el,fa.len]; exact hL,?_,?_⟩,ec,by rw [el,fa.len],by omega⟩
    · intro q k m hq
      rw [hget] at hq
      split at hq
      · cases hq
      rename_i h1
      split at hq
      · rename_i h2
        injection hq with hq
        injection hq with ek en
        subst ek en
        refine ⟨i,t,by rw [el,hni]; exact h2,by rw [el,fa.use]; simp,k1,k6,n0,by rw [el,hni]; exact nW',?_⟩
        intro j hj
        exact ⟨0,by rw [hget,if_pos (by omega)]⟩
      · rename_i h2
        obtain ⟨i',u,hp,hu,a,b,c,d,f⟩:=hok.head q k m hq
        have hk:=hkeep i' u hu
        refine ⟨i',u,by rw [el,hk]; exact hp,?_,a,b,c,by rw [el,hk]; exact d,?_⟩
        · rw [el]
          by_cases e:i'=i
          · subst e; rw [fa.use,hu]; rfl
          · rw [used_far (fa.far i' e)]; exact hu
        · intro j hj
          obtain ⟨w,hw⟩:=f j hj
          refine ⟨w,?_⟩
          have hne:=fun mm hmm=>hap i' u (1+j) mm hu (by omega) hmm
          rw [hget,if_neg,if_neg]
          · exact hw
          · intro e; exact hne 0 (by omega) (by omega)
          · intro e; exact hne (q+1+j - (i * 32+t * W)) (by omega) (by omega)
    · intro i' u hu
      rw [el] at hu ⊢
      by_cases e:i'=i∧u=t
      · obtain ⟨rfl,rfl⟩:=e
        exact ⟨kind,n,by rw [hni,hget,if_neg (by omega),if_pos rfl]⟩
      · have hu0:sUsed s.l i' u=true:=by
          by_cases e1:i'=i
          · subst e1
            rw [fa.use,Bool.or_eq_true] at hu
            rcases hu with hu | hu
            · exact hu
            · exact absurd ⟨rfl,by simpa using hu⟩ e
          · rw [used_far (fa.far i' e1)] at hu; exact hu
        obtain ⟨k,m,hkm⟩:=hok.slot i' u hu0
        have hk:=hkeep i' u hu0
        refine ⟨k,m,?_⟩
        obtain ⟨_,uW,_⟩:=used_geo hok.rows hu0
        have hne:=fun mm hmm=>hap i' u 0 mm hu0 (by omega) hmm
        rw [hk,hget,if_neg,if_neg]
        · exact hkm
        · intro e; exact hne 0 (by omega) (by omega)
        · intro e; exact hne (i' * 32+u * nW s.l i' - (i * 32+t * W)) (by omega) (by omega)
  · cases h
theorem head_geo {s:ASt} (hok:AOk s) {p:Nat} {k n:Int} (h:s.c[p]?=some (.head k n)):p / 32<s.l.length∧sUsed s.l (p / 32:Nat) (p % 32 / nW s.l (p / 32):Nat)=true∧p=p / 32 * 32+p % 32 / nW s.l (p / 32) * nW s.l (p / 32)∧cWords (sClass s.l (p / 32:Nat))=(nW s.l (p / 32):Int)∧0<nW s.l (p / 32)∧nW s.l (p / 32)≤32∧0≤n∧n.toNat<nW s.l (p / 32)∧p+1+n.toNat≤s.c.length∧1≤k∧k≤6:=by
  obtain ⟨i,u,hp,hu,a,b,c,d,f⟩:=hok.head p k n h
  obtain ⟨hi,uW,ut,_,_,hc⟩:=used_geo hok.rows hu
  obtain ⟨x,y,z⟩:=coord (i:=i) (j:=0) uW ut (by omega)
  rw [Nat.add_zero,← hp] at x y
  have hL:=hok.len
  rw [x,y]
  exact ⟨hi,hu,hp,hc,by omega,by omega,c,d,by omega,a,b⟩
theorem free_ok {s:ASt} (hok:AOk s) (a:Int):AOk (aFreeS a s)∧(aFreeS a s).c.length=s.c.length∧(aFreeS a s).l.length=s.l.length:=by
  unfold aFreeS
  split
  · rename_i h e
    obtain ⟨k,n⟩:=h
    obtain ⟨p,rfl,hp⟩:=aHead_some e
    simp only [Int.toNat_natCast]
    obtain ⟨g1,g2,g3,g4,g5,g6,g7,g8,g9,g10,g11⟩:=head_geo hok hp
    generalize hi:p / 32=i at *
    generalize hu:p % 32 / nW s.l i=u at *
    have fa:=free_facts hok.rows g2
    obtain ⟨_,uW,ut,_⟩:=used_geo hok.rows g2
    have hL:=hok.len
    have hap:∀ (i' v j m:Nat),sUsed s.l i' v=true→¬ (i'=i∧v=u)→j<nW s.l i'→m<nW s.l i→i' * 32+v * nW s.l i'+j≠p+m:=by
      intro i' v j m hv hne hj hm e
      obtain ⟨_,vW,vt,_⟩:=used_geo hok.rows hv
      rw [g3] at e
      obtain ⟨x,y,z⟩:=slots_apart vW vt hj uW ut hm (fun e=>by rw [e]) e
      exact hne ⟨x,y⟩
    have hget:∀ q:Nat,(aFill s.c p .none (n.toNat+1))[q]?=if p≤q∧q<p+(n.toNat+1) then some .none else s.c[q]?:=by
      intro q
      rw [aFill_get]
      by_cases h1:p≤q∧q<p+(n.toNat+1)
      · rw [if_pos h1,if_pos ⟨h1.1,h1.2,by omega⟩]
      · rw [if_neg h1,if_neg (by omega)]
    refine ⟨⟨fa.ok,by simp only; rw [aFill_len,fa.len]; exact hL,?_,?_⟩,aFill_len _ _ _ _,fa.len⟩
    · intro q k' m hq
      simp only at hq ⊢
      rw [hget] at hq
      split at hq
      · cases hq
      rename_i h1
      obtain ⟨i',v,hp',hv,a,b,c,d,f⟩:=hok.head q k' m hq
      have hne:¬ (i'=i∧v=u):=by rintro ⟨rfl,rfl⟩; rw [← g3] at hp'; omega
      have hv':sUsed (sFree s.l i u) i' v=true:=by
        rw [fa.use,hv]
        simp; exact Decidable.not_and_iff_or_not.1 hne
      have hk:nW (sFree s.l i u) i'=nW s.l i':=by unfold nW; rw [fa.cls i' v hv']
      refine ⟨i',v,by rw [hk]; exact hp',hv',a,b,c,by rw [hk]; exact d,?_⟩
      intro j hj
      obtain ⟨w,hw⟩:=f j hj
      refine ⟨w,?_⟩
      rw [hget,if_neg]
      · exact hw
      · intro e; exact hap i' v (1+j) (q+1+j - p) hv hne (by omega) (by omega) (by omega)
    · intro i' v hv'
      simp only at hv' ⊢
      have hk:nW (sFree s.l i u) i'=nW s.l i':=by unfold nW; rw [fa.cls i' v hv']
      rw [fa.use,Bool.and_eq_true] at hv'
      obtain ⟨hv,hne⟩:=hv'
      have hne:¬ (i'=i∧v=u):=by rintro ⟨rfl,rfl⟩; simp at hne
      obtain ⟨k',m,hkm⟩:=hok.slot i' v hv
      obtain ⟨_,vW,_⟩:=used_geo hok.rows hv
      refine ⟨k',m,?_⟩
      rw [hk,hget,if_neg]
      · exact hkm
      · intro e; exact hap i' v 0 (i' * 32+v * nW s.l i' - p) hv hne (by omega) (by omega) (by omega)
  · exact ⟨hok,rfl,rfl⟩
theorem err_zero {a i:Int} {s:ASt} (h:aErr a i s=0):∃ (p j:Nat) (k n:Int),a=p∧i=j∧s.c[p]?=some (.head k n)∧j<n.toNat:=by
  unfold aErr at h
  split at h
  · rename_i hd e
    obtain ⟨k,n⟩:=hd
    obtain ⟨p,rfl,hp⟩:=aHead_some e
    split at h
    · rename_i hc
      obtain ⟨j,rfl⟩:=Int.eq_ofNat_of_zero_le hc.1
      exact ⟨p,j,k,n,rfl,rfl,hp,by have:=hc.2; simp only at this; omega⟩
    · cases h
  · cases h
theorem err_word {s:ASt} (hok:AOk s) {p j:Nat} {k n:Int} (h:s.c[p]?=some (.head k n)) (hj:j<n.toNat):∃ w,s.c[p+1+j]?=some (.word w):=by
  obtain ⟨i,u,hp,hu,a,b,c,d,f⟩:=hok.head p k n h
  exact f j hj
theorem store_ok {s:ASt} (hok:AOk s) (a i w:Int):AOk (aStoreS a i w s)∧(aStoreS a i w s).c.length=s.c.length∧(aStoreS a i w s).l=s.l:=by
  unfold aStoreS
  split
  · rename_i he
    obtain ⟨p,j,k,n,rfl,rfl,hp,hj⟩:=err_zero he
    obtain ⟨x,hx⟩:=err_word hok hp hj
    simp only [Int.toNat_natCast]
    have hlt:=(List.getElem?_eq_some_iff.1 hx).1
    have hget:∀ q:Nat,(s.c.set (p+1+j) (.word w))[q]?=if q=p+1+j then some (.word w) else s.c[q]?:=by
      intro q
      rw [List.getElem?_set]
      by_cases e:q=p+1+j
      · rw [if_pos e,if_pos e.symm,if_pos (by omega)]
      · rw [if_neg e,if_neg (fun x=>e x.symm)]
    refine ⟨⟨hok.rows,by simpa using hok.len,?_,?_⟩,by simp,trivial⟩
    · intro q k' m hq
      simp only at hq ⊢
      rw [hget] at hq
      split at hq
      · cases hq
      obtain ⟨i',v,hp',hv,a,b,c,d,f⟩:=hok.head q k' m hq
      refine ⟨i',v,hp',hv,a,b,c,d,fun y hy=>?_⟩
      rw [hget]
      split
      · exact ⟨w,rfl⟩
      · exact f y hy
    · intro i' v hv
      obtain ⟨k',m,hkm⟩:=hok.slot i' v hv
      refine ⟨k',m,?_⟩
      simp only
      rw [hget,if_neg]
      · exact hkm
      · intro e; rw [e,hx] at hkm; cases hkm
  · exact ⟨hok,rfl,rfl⟩
end Go.Proofs.Ytffnjpapggidlaa
namespace Go.Proofs.Ytffnjpapggidlaa
open Go.RowKit
def ACell.val:ACell→Value
  | .none=>.nilIface
  | .head k n=>.iface 97 (.agg #[.int .i64 k,.int .i64 n])
  | .word w=>.iface 103 (.int .i64 w)
@[go_sem] theorem as_hh (a b:Value) (w:World):(Instr.typeAssert (.iface 97 (.agg #[a,b])) 20 97 true).run Try.prog w=.ok (.tuple #[.agg #[a,b],.bool true]) w:=by kernel_rfl
@[go_sem] theorem as_hw (v:Value) (w:World):(Instr.typeAssert (.iface 103 v) 20 97 true).run Try.prog w=.ok (.tuple #[.agg #[.int .i64 0,.int .i64 0],.bool false]) w:=by kernel_rfl
@[go_sem] theorem as_hn (w:World):(Instr.typeAssert .nilIface 20 97 true).run Try.prog w=.ok (.tuple #[.agg #[.int .i64 0,.int .i64 0],.bool false]) w:=by kernel_rfl
@[go_sem] theorem as_ww (v:Value) (w:World):(Instr.typeAssert (.iface 103 v) 20 103 true).run Try.prog w=.ok (.tuple #[v,.bool true]) w:=by kernel_rfl
def aCells (c:List ACell):Array Value:=(c.map ACell.val).toArray
theorem aCells_get (c:List ACell) (i:Nat):(aCells c)[i]?=c[i]?.map ACell.val:=by simp [aCells]
theorem aCells_set (c:List ACell) (i:Nat) (v:ACell):(aCells c).setIfInBounds i v.val=aCells (c.set i v):=by
  apply Array.ext_getElem?
  intro j
  rw [Array.getElem?_setIfInBounds,aCells_get,aCells_get,List.getElem?_set]
  simp [aCells]
  split <;> simp
def ArenaAt (w:World) (b:Nat) (s:ASt) (F:List Nat):Prop :=
  ∃ sb g Fs,Blk w b 92 #[.pointer (some ⟨sb,0,none⟩),.slice (some ⟨g,0,none⟩) s.c.length s.c.length]∧SpanAt w sb s.l Fs∧Blk w g 20 (aCells s.c)∧F=b::g::Fs∧AOk s∧b ∉ Fs∧g ∉ Fs∧b≠g
theorem ArenaAt.keep {w w':World} {b:Nat} {s:ASt} {F G:List Nat} (h:ArenaAt w b s F) (k:Keeps G w w') (hd:∀ i ∈ F,i ∉ G):ArenaAt w' b s F:=by
  obtain ⟨sb,g,Fs,h1,h2,h3,rfl,r⟩:=h
  exact ⟨sb,g,Fs,k.blk h1 (hd _ (by simp)),h2.keep k (fun i hi=>hd _ (by simp [hi])),k.blk h3 (hd _ (by simp)),rfl,r⟩
theorem ArenaAt.lt {w:World} {b:Nat} {s:ASt} {F:List Nat} (h:ArenaAt w b s F):∀ i ∈ F,i<w.heap.size:=by
  obtain ⟨sb,g,Fs,h1,h2,h3,rfl,r⟩:=h
  intro i hi
  simp at hi
  rcases hi with rfl | rfl | hi
  · exact h1.lt
  · exact h3.lt
  · exact h2.lt i hi
theorem ArenaAt.size {w:World} {b:Nat} {s:ASt} {F:List Nat} (h:ArenaAt w b s F):s.c.length=32 * s.l.length∧2≤s.l.length∧s.l.length≤128:=by
  obtain ⟨sb,g,Fs,h1,⟨_,_,_,_,_,_,hn,hn2,_⟩,h3,rfl,ok,r⟩:=h
  exact ⟨ok.len,hn,hn2⟩
theorem cell_cases (c:List ACell) (a:Int):a<0∧aHead c a=none ∨ ((0≤a∧(c.length:Int)≤a)∧aHead c a=none) ∨ ∃ p:Nat,a=p∧p<c.length∧((c[p]?=some .none∧aHead c a=none) ∨ (∃ k n,c[p]?=some (.head k n)∧aHead c a=some (k,n)) ∨ (∃ x,c[p]?=some (.word x)∧aHead c a=none)):=by
  rcases int_cases a c.length with h | ⟨h0,h⟩ | ⟨i,rfl,hi⟩
  · exact .inl ⟨h,by unfold aHead; rw [if_neg (by omega)]⟩
  · exact .inr (.inl ⟨⟨h0,h⟩,by unfold aHead; rw [if_pos h0,List.getElem?_eq_none (by omega)]⟩)
  · refine .inr (.inr ⟨i,rfl,hi,?_⟩)
    have e:c[i]?=some c[i]:=List.getElem?_eq_getElem hi
    cases hc:c[i] with
    | none=>rw [hc] at e; exact .inl ⟨e,by unfold aHead; rw [if_pos (by omega)]; simp [e]⟩
    | head k n=>rw [hc] at e; exact .inr (.inl ⟨k,n,e,aHead_nat e⟩)
    | word x=>rw [hc] at e; exact .inr (.inr ⟨x,e,by unfold aHead; rw [if_pos (by omega)]; simp [e]⟩)
def headV (c:List ACell) (a:Int):Value:=.tuple #[.agg #[.int .i64 (aKind c a),.int .i64 (aLen c a)],.bool (aHead c a).isSome]
theorem headV_none {c:List ACell} {a:Int} (e:aHead c a=none):headV c a=.tuple #[.agg #[.int .i64 0,.int .i64 0],.bool false]:=by unfold headV aKind aLen; rw [e]; rfl
theorem headV_some {c:List ACell} {a k n:Int} (e:aHead c a=some (k,n)):headV c a=.tuple #[.agg #[.int .i64 k,.int .i64 n],.bool true]:=by unfold headV aKind aLen; rw [e]; rfl
theorem arena_head_nil (a:Int) (w:World) :
    Calls Try.prog 60 #[.pointer none,.int .i64 a] w fun e w'=>e=.returned (.tuple #[.agg #[.int .i64 0,.int .i64 0],.bool false])∧Below w.heap.size w w':=by
  go_enter Try.func60,Try.ntmps60
  go_wp2
  (try simp only [Exit.inBlock,Exit.then])
  refine bodyPost_ret (v:=.tuple #[.agg #[.int .i64 0,.int .i64 0],.bool false]) (by rw [results_cell_tmp rfl]; go_simp) rfl ?_
  exact ⟨rfl,by (repeat' (first | assumption | exact Below.refl _ _ | refine Below.drew ?_ | (refine Below.setCell ?_ ?_ _; rotate_left; focus (first | omega | (simp; done) | (simp; omega))) | (refine Below.alloc ?_ ?_ _; rotate_left; focus (first | omega | (simp; done) | (simp; omega)))))⟩
set_option maxHeartbeats 1000000 in
theorem arena_head (b:Nat) (s:ASt) (F:List Nat) (a:Int) (w:World) (hS:ArenaAt w b s F) :
    Calls Try.prog 60 #[.pointer (some ⟨b,0,none⟩),.int .i64 a] w fun e w'=>e=.returned (headV s.c a)∧Below w.heap.size w w':=by
  have hz:=hS.size
  obtain ⟨sb,g,Fs,hb,hs,hc,hF,hok,-⟩:=hS
  have hbl:=hb.lt
  have hcl:=hc.lt
  have hb1:=hb.alloc (.cells #[.int .i64 0,.int .i64 0] 97)
  have c0:=hb1.cell 0
  have c1:=hb1.cell 1
  simp at c0 c1
  rcases cell_cases s.c a with ⟨h,e⟩ | ⟨⟨h0,h⟩,e⟩ | ⟨p,rfl,hp,h⟩
  · rw [headV_none e]
    clear hz hb hs hc hF hok e hb1
    go_enter Try.func60,Try.ntmps60
    go_wp2
    (try simp only [Exit.inBlock,Exit.then])
    refine bodyPost_ret (v:=.tuple #[.agg #[.int .i64 0,.int .i64 0],.bool false]) (by rw [results_cell_tmp rfl]; go_simp) rfl ?_
    exact ⟨rfl,by (repeat' (first | assumption | exact Below.refl _ _ | refine Below.drew ?_ | (refine Below.setCell ?_ ?_ _; rotate_left; focus (first | omega | (simp; done) | (simp; omega))) | (refine Below.alloc ?_ ?_ _; rotate_left; focus (first | omega | (simp; done) | (simp; omega)))))⟩
  · rw [headV_none e]
    clear hz hb hs hc hF hok e hb1
    go_enter Try.func60,Try.ntmps60
    go_wp2
    (try simp only [Exit.inBlock,Exit.then])
    refine bodyPost_ret (v:=.tuple #[.agg #[.int .i64 0,.int .i64 0],.bool false]) (by rw [results_cell_tmp rfl]; go_simp) rfl ?_
    exact ⟨rfl,by (repeat' (first | assumption | exact Below.refl _ _ | refine Below.drew ?_ | (refine Below.setCell ?_ ?_ _; rotate_left; focus (first | omega | (simp; done) | (simp; omega))) | (refine Below.alloc ?_ ?_ _; rotate_left; focus (first | omega | (simp; done) | (simp; omega)))))⟩
  · have d:=(hc.alloc (.cells #[.int .i64 0,.int .i64 0] 97)).cell p
    rw [aCells_get] at d
    have i1:(p:Int)<s.c.length:=by omega
    rcases h with ⟨h,e⟩ | ⟨k,n,h,e⟩ | ⟨x,h,e⟩
    · rw [headV_none e]
      rw [h] at d
      simp [ACell.val] at d
      clear hz hb hs hc hF hok e h hb1
      go_enter Try.func60,Try.ntmps60
      go_wp2
      (try simp only [Exit.inBlock,Exit.then])
      refine bodyPost_ret (v:=.tuple #[.agg #[.int .i64 0,.int .i64 0],.bool false]) (by rw [results_cell_tmp rfl]; go_simp) rfl ?_
      exact ⟨rfl,by (repeat' (first | assumption | exact Below.refl _ _ | refine Below.drew ?_ | (refine Below.setCell ?_ ?_ _; rotate_left; focus (first | omega | (simp; done) | (simp; omega))) | (refine Below.alloc ?_ ?_ _; rotate_left; focus (first | omega | (simp; done) | (simp; omega)))))⟩
    · rw [headV_some e]
      rw [h] at d
      simp [ACell.val] at d
      clear hz hb hs hc hF hok e h hb1
      go_enter Try.func60,Try.ntmps60
      go_wp2
      (try simp only [Exit.inBlock,Exit.then])
      refine bodyPost_ret (v:=.tuple #[.agg #[.int .i64 k,.int .i64 n],.bool true]) (by rw [results_cell_tmp rfl]; go_simp) rfl ?_
      exact ⟨rfl,by (repeat' (first | assumption | exact Below.refl _ _ | refine Below.drew ?_ | (refine Below.setCell ?_ ?_ _; rotate_left; focus (first | omega | (simp; done) | (simp; omega))) | (refine Below.alloc ?_ ?_ _; rotate_left; focus (first | omega | (simp; done) | (simp; omega)))))⟩
    · rw [headV_none e]
      rw [h] at d
      simp [ACell.val] at d
      clear hz hb hs hc hF hok e h hb1
      go_enter Try.func60,Try.ntmps60
      go_wp2
      (try simp only [Exit.inBlock,Exit.then])
      refine bodyPost_ret (v:=.tuple #[.agg #[.int .i64 0,.int .i64 0],.bool false]) (by rw [results_cell_tmp rfl]; go_simp) rfl ?_
      exact ⟨rfl,by (repeat' (first | assumption | exact Below.refl _ _ | refine Below.drew ?_ | (refine Below.setCell ?_ ?_ _; rotate_left; focus (first | omega | (simp; done) | (simp; omega))) | (refine Below.alloc ?_ ?_ _; rotate_left; focus (first | omega | (simp; done) | (simp; omega)))))⟩
end Go.Proofs.Ytffnjpapggidlaa
namespace Go.Proofs.Ytffnjpapggidlaa
open Go.RowKit
theorem arena_Words (b:Nat) (s:ASt) (F:List Nat) (w:World) (hS:ArenaAt w b s F) :
    Calls Try.prog 29 #[.pointer (some ⟨b,0,none⟩)] w fun e w'=>e=.returned (.int .i64 s.c.length)∧w=w':=by
  obtain ⟨sb,g,Fs,hb,hs,hc,hF,hok,-⟩:=hS
  have c1:=hb.cell 1
  simp at c1
  clear hb hs hc hF hok
  go_enter Try.func29,Try.ntmps29
  go_wp2
  go_ret
  exact ⟨rfl,rfl⟩
theorem arena_Used (b:Nat) (s:ASt) (F:List Nat) (w:World) (hS:ArenaAt w b s F) :
    Calls Try.prog 27 #[.pointer (some ⟨b,0,none⟩)] w fun e w'=>e=.returned (.int .i64 (sWords s.l))∧Below w.heap.size w w':=by
  obtain ⟨sb,g,Fs,hb,hs,hc,hF,hok,-⟩:=hS
  have c0:=hb.cell 0
  simp at c0
  have HS:=Lib.hid hs
  clear hb hs hc hF hok
  go_enter Try.func27,Try.ntmps27
  go_wp2_with (go_at_call 14; refine (span_Words _ _ _ _ HS.out).mono ?_; rintro e w1 ⟨rfl,hb1⟩)
  go_ret
  exact ⟨rfl,by assumption⟩
theorem arena_Kind (b:Nat) (s:ASt) (F:List Nat) (a:Int) (w:World) (hS:ArenaAt w b s F) :
    Calls Try.prog 30 #[.pointer (some ⟨b,0,none⟩),.int .i64 a] w fun e w'=>e=.returned (.int .i64 (aKind s.c a))∧Below w.heap.size w w':=by
  go_enter Try.func30,Try.ntmps30
  have HS:=Lib.hid hS
  clear hS
  go_wp2_with fail
  refine (arena_head _ _ _ _ _ HS.out).mono ?_
  rintro e w1 ⟨rfl,hb1⟩
  unfold headV
  go_wp2
  go_ret
  exact ⟨rfl,by have:=hb1.size; (repeat' (first | assumption | exact Below.refl _ _ | refine Below.drew ?_ | (refine Below.setCell ?_ ?_ _; rotate_left; focus (first | omega | (simp; done) | (simp; omega))) | (refine Below.alloc ?_ ?_ _; rotate_left; focus (first | omega | (simp; done) | (simp; omega)))))⟩
theorem arena_Len (b:Nat) (s:ASt) (F:List Nat) (a:Int) (w:World) (hS:ArenaAt w b s F) :
    Calls Try.prog 32 #[.pointer (some ⟨b,0,none⟩),.int .i64 a] w fun e w'=>e=.returned (.int .i64 (aLen s.c a))∧Below w.heap.size w w':=by
  go_enter Try.func32,Try.ntmps32
  have HS:=Lib.hid hS
  clear hS
  go_wp2_with fail
  refine (arena_head _ _ _ _ _ HS.out).mono ?_
  rintro e w1 ⟨rfl,hb1⟩
  unfold headV
  go_wp2
  go_ret
  exact ⟨rfl,by have:=hb1.size; (repeat' (first | assumption | exact Below.refl _ _ | refine Below.drew ?_ | (refine Below.setCell ?_ ?_ _; rotate_left; focus (first | omega | (simp; done) | (simp; omega))) | (refine Below.alloc ?_ ?_ _; rotate_left; focus (first | omega | (simp; done) | (simp; omega)))))⟩
def placeV (s:ASt) (a i:Int):Value:=.tuple #[.int .i64 (if aErr a i s=0 then a+1+i else 0),.int .i64 (aErr a i s)]
set_option maxHeartbeats 1000000 in
theorem arena_place (b:Nat) (s:ASt) (F:List Nat) (a i:Int) (w:World) (hS:ArenaAt w b s F) :
    Calls Try.prog 62 #[.pointer (some ⟨b,0,none⟩),.int .i64 a,.int .i64 i] w fun e w'=>e=.returned (placeV s a i)∧Below w.heap.size w w':=by
  have hz:=hS.size
  have hok:AOk s:=by obtain ⟨sb,g,Fs,hb,hs,hc,hF,hok,-⟩:=hS; exact hok
  cases h:aHead s.c a with
  | none =>
    have he:placeV s a i=.tuple #[.int .i64 0,.int .i64 8]:=by unfold placeV aErr; rw [h]; rfl
    rw [he]
    have hh:=headV_none h
    have HS:=Lib.hid hS
    have HH:=Lib.hid hh
    clear hS hh hz hok he h
    go_enter Try.func62,Try.ntmps62
    go_wp2_with fail
    refine (arena_head _ _ _ _ _ HS.out).mono ?_
    rintro e w1 ⟨rfl,hb1⟩
    rw [HH.out]
    go_wp2
    go_ret2
    exact ⟨rfl,by have:=hb1.size; (repeat' (first | assumption | exact Below.refl _ _ | refine Below.drew ?_ | (refine Below.setCell ?_ ?_ _; rotate_left; focus (first | omega | (simp; done) | (simp; omega))) | (refine Below.alloc ?_ ?_ _; rotate_left; focus (first | omega | (simp; done) | (simp; omega)))))⟩
  | some kn =>
    obtain ⟨k,n⟩:=kn
    obtain ⟨p,rfl,hp⟩:=aHead_some h
    obtain ⟨-,-,-,-,-,-,n0,-,hl,-⟩:=head_geo hok hp
    have hh:=headV_some h
    have HS:=Lib.hid hS
    have HH:=Lib.hid hh
    by_cases h0:i<0
    · have he:placeV s p i=.tuple #[.int .i64 0,.int .i64 1]:=by unfold placeV aErr; rw [h]; simp only [if_neg (show ¬ (0≤i∧i<n) by omega)]; rfl
      rw [he]
      clear hS hh hz hok he h hp hl n0
      go_enter Try.func62,Try.ntmps62
      go_wp2_with fail
      refine (arena_head _ _ _ _ _ HS.out).mono ?_
      rintro e w1 ⟨rfl,hb1⟩
      rw [HH.out]
      go_wp2
      go_ret2
      exact ⟨rfl,by have:=hb1.size; (repeat' (first | assumption | exact Below.refl _ _ | refine Below.drew ?_ | (refine Below.setCell ?_ ?_ _; rotate_left; focus (first | omega | (simp; done) | (simp; omega))) | (refine Below.alloc ?_ ?_ _; rotate_left; focus (first | omega | (simp; done) | (simp; omega)))))⟩
    · by_cases h1:n≤i
      · have he:placeV s p i=.tuple #[.int .i64 0,.int .i64 1]:=by unfold placeV aErr; rw [h]; simp only [if_neg (show ¬ (0≤i∧i<n) by omega)]; rfl
        rw [he]
        clear hS hh hz hok he h hp hl n0
        go_enter Try.func62,Try.ntmps62
        go_wp2_with fail
        refine (arena_head _ _ _ _ _ HS.out).mono ?_
        rintro e w1 ⟨rfl,hb1⟩
        rw [HH.out]
        go_wp2
        go_ret2
        exact ⟨rfl,by have:=hb1.size; (repeat' (first | assumption | exact Below.refl _ _ | refine Below.drew ?_ | (refine Below.setCell ?_ ?_ _; rotate_left; focus (first | omega | (simp; done) | (simp; omega))) | (refine Below.alloc ?_ ?_ _; rotate_left; focus (first | omega | (simp; done) | (simp; omega)))))⟩
      · have he:placeV s p i=.tuple #[.int .i64 (p+1+i),.int .i64 0]:=by unfold placeV aErr; rw [h]; simp only [if_pos (show 0≤i∧i<n by omega)]; rfl
        rw [he]
        have d1:IntKind.i64.wrap ((p:Int)+1)=(p:Int)+1:=IntWalk.i64_in _ (by omega)
        have d2:IntKind.i64.wrap ((p:Int)+1+i)=(p:Int)+1+i:=IntWalk.i64_in _ (by omega)
        clear hS hh hz hok he h hp hl n0
        go_enter Try.func62,Try.ntmps62
        go_wp2_with fail
        refine (arena_head _ _ _ _ _ HS.out).mono ?_
        rintro e w1 ⟨rfl,hb1⟩
        rw [HH.out]
        go_wp2
        go_ret2
        exact ⟨rfl,by have:=hb1.size; (repeat' (first | assumption | exact Below.refl _ _ | refine Below.drew ?_ | (refine Below.setCell ?_ ?_ _; rotate_left; focus (first | omega | (simp; done) | (simp; omega))) | (refine Below.alloc ?_ ?_ _; rotate_left; focus (first | omega | (simp; done) | (simp; omega)))))⟩
def loadV (s:ASt) (a i:Int):Value:=.tuple #[.int .i64 (aWord a i s),.int .i64 (aErr a i s)]
set_option maxHeartbeats 1000000 in
theorem arena_Load (b:Nat) (s:ASt) (F:List Nat) (a i:Int) (w:World) (hS:ArenaAt w b s F) :
    Calls Try.prog 34 #[.pointer (some ⟨b,0,none⟩),.int .i64 a,.int .i64 i] w fun e w'=>e=.returned (loadV s a i)∧Below w.heap.size w w':=by
  have hz:=hS.size
  by_cases he:aErr a i s=0
  · have hok:AOk s:=by obtain ⟨sb,g,Fs,hb,hs,hc,hF,hok,-⟩:=hS; exact hok
    have hpv:placeV s a i=.tuple #[.int .i64 (a+1+i),.int .i64 0]:=by unfold placeV; rw [he]; rfl
    have hlv:loadV s a i=.tuple #[.int .i64 (aWord a i s),.int .i64 0]:=by unfold loadV; rw [he]
    obtain ⟨p,j,k,n,rfl,rfl,hp,hj⟩:=err_zero he
    obtain ⟨x,hx⟩:=err_word hok hp hj
    have hwd:aWord p j s=x:=by unfold aWord; rw [if_pos he]; simp only [Int.toNat_natCast]; rw [hx]; rfl
    have hlt:=(List.getElem?_eq_some_iff.1 hx).1
    rw [hlv,hwd]
    rw [show (p:Int)+1+j=((p+1+j:Nat):Int) by omega] at hpv
    generalize p+1+j=q at *
    have HS:=Lib.hid hS
    have HP:=Lib.hid hpv
    have HX:=Lib.hid hx
    have q0:(0:Int)≤q:=by omega
    have q1:(q:Int)<s.c.length:=by omega
    clear hS hpv hlv hwd hp hj hok he hx
    go_enter Try.func34,Try.ntmps34
    go_wp2_with fail
    refine (arena_place _ _ _ _ _ _ HS.out).mono ?_
    rintro e w1 ⟨rfl,hb1⟩
    rw [HP.out]
    obtain ⟨sb,g,Fs,hb,hs,hc,hF,hok,-⟩:=HS.out.keep (Keeps.of_below hb1 []) (by simp)
    have c1:=hb.cell 1
    simp at c1
    have d:=hc.cell q
    rw [aCells_get,HX.out] at d
    simp [ACell.val] at d
    clear hb hs hc hF hok
    go_wp2
    go_ret2
    exact ⟨rfl,hb1⟩
  · have hpv:placeV s a i=.tuple #[.int .i64 0,.int .i64 (aErr a i s)]:=by unfold placeV; rw [if_neg he]
    have hlv:loadV s a i=.tuple #[.int .i64 0,.int .i64 (aErr a i s)]:=by unfold loadV aWord; rw [if_neg he]
    rw [hlv]
    have HS:=Lib.hid hS
    have HP:=Lib.hid hpv
    have e1:(aErr a i s == 0)=false:=by rw [beq_eq_false_iff_ne]; exact he
    generalize aErr a i s=E at *
    clear hS hpv hlv
    go_enter Try.func34,Try.ntmps34
    go_wp2_with fail
    refine (arena_place _ _ _ _ _ _ HS.out).mono ?_
    rintro e w1 ⟨rfl,hb1⟩
    rw [HP.out]
    go_wp2
    go_ret2
    exact ⟨rfl,hb1⟩
def ArenaDoes (r:Ending) (b:Nat) (s':ASt) (F:List Nat) (w:World) (e:Ending) (w':World):Prop:=e=r∧ArenaAt w' b s' F∧Keeps F w w'
set_option maxHeartbeats 1000000 in
theorem arena_Store (b:Nat) (s:ASt) (F:List Nat) (a i x:Int) (w:World) (hS:ArenaAt w b s F) :
    Calls Try.prog 21 #[.pointer (some ⟨b,0,none⟩),.int .i64 a,.int .i64 i,.int .i64 x] w (ArenaDoes (.returned (.int .i64 (aErr a i s))) b (aStoreS a i x s) F w):=by
  have hz:=hS.size
  by_cases he:aErr a i s=0
  · have hok:AOk s:=by obtain ⟨sb,g,Fs,hb,hs,hc,hF,hok,-⟩:=hS; exact hok
    have hst:=store_ok hok a i x
    have hpv:placeV s a i=.tuple #[.int .i64 (a+1+i),.int .i64 0]:=by unfold placeV; rw [he]; rfl
    have hss:aStoreS a i x s=⟨s.l,s.c.set (a.toNat+1+i.toNat) (.word x)⟩:=by unfold aStoreS; rw [if_pos he]
    obtain ⟨p,j,k,n,rfl,rfl,hp,hj⟩:=err_zero he
    obtain ⟨y,hy⟩:=err_word hok hp hj
    have hlt:=(List.getElem?_eq_some_iff.1 hy).1
    rw [he]
    simp only [Int.toNat_natCast] at hss
    rw [hss] at hst ⊢
    rw [show (p:Int)+1+j=((p+1+j:Nat):Int) by omega] at hpv
    generalize p+1+j=q at *
    have HS:=Lib.hid hS
    have HP:=Lib.hid hpv
    have HY:=Lib.hid hy
    have HT:=Lib.hid hst
    have q0:(0:Int)≤q:=by omega
    have q1:(q:Int)<s.c.length:=by omega
    clear hS hpv hp hj hok he hy hst hss
    go_enter Try.func21,Try.ntmps21
    go_wp2_with fail
    refine (arena_place _ _ _ _ _ _ HS.out).mono ?_
    rintro e w1 ⟨rfl,hb1⟩
    rw [HP.out]
    have HA:=Lib.hid (HS.out.keep (Keeps.of_below hb1 []) (by simp))
    obtain ⟨sb,g,Fs,hb,hs,hc,hF,hok,n1,n2,n3⟩:=HA.out
    have c1:=hb.cell 1
    simp at c1
    have d:=hc.cell q
    rw [aCells_get,HY.out] at d
    simp [ACell.val] at d
    have fz:=hc.free q
    have HB:=Lib.hid hb
    have HSP:=Lib.hid hs
    have HC:=Lib.hid hc
    have HF:=Lib.hid hF
    have HN:=Lib.hid (And.intro n1 (And.intro n2 n3))
    have HK:=Lib.hid hb1
    clear hb hs hc hF hok n1 n2 n3 hb1
    go_wp2
    go_ret
    obtain ⟨n1,n2,n3⟩:=HN.out
    refine ⟨rfl,⟨sb,g,Fs,?_,?_,?_,HF.out,HT.out.1,n1,n2,n3⟩,?_⟩
    · have:=HB.out.far (p:=⟨g,q,none⟩) n3 (ACell.word x).val
      simpa [ACell.val] using this
    · exact HSP.out.keep ((Keeps.refl [g] _).set (by simp) _) (by intro i hi; simp; rintro rfl; exact n2 hi)
    · have:=HC.out.set q (ACell.word x).val
      rw [aCells_set] at this
      exact this
    · exact (Keeps.of_below HK.out F).set (by rw [HF.out]; simp) _
  · have hpv:placeV s a i=.tuple #[.int .i64 0,.int .i64 (aErr a i s)]:=by unfold placeV; rw [if_neg he]
    have hss:aStoreS a i x s=s:=by unfold aStoreS; rw [if_neg he]
    rw [hss]
    have HS:=Lib.hid hS
    have HP:=Lib.hid hpv
    have e1:(aErr a i s == 0)=false:=by rw [beq_eq_false_iff_ne]; exact he
    generalize aErr a i s=E at *
    clear hS hpv hss
    go_enter Try.func21,Try.ntmps21
    go_wp2_with fail
    refine (arena_place _ _ _ _ _ _ HS.out).mono ?_
    rintro e w1 ⟨rfl,hb1⟩
    rw [HP.out]
    go_wp2
    go_ret
    exact ⟨rfl,HS.out.keep (Keeps.of_below hb1 []) (by simp),Keeps.of_below hb1 F⟩
theorem arena_Words_nil (w:World):Calls Try.prog 29 #[.pointer none] w fun e w'=>e=.returned (.int .i64 0)∧w=w':=by
  go_enter Try.func29,Try.ntmps29
  go_wp2
  go_ret
  exact ⟨rfl,rfl⟩
theorem arena_Used_nil (w:World):Calls Try.prog 27 #[.pointer none] w fun e w'=>e=.returned (.int .i64 0)∧w=w':=by
  go_enter Try.func27,Try.ntmps27
  go_wp2
  go_ret
  exact ⟨rfl,rfl⟩
theorem arena_Kind_nil (a:Int) (w:World):Calls Try.prog 30 #[.pointer none,.int .i64 a] w fun e w'=>e=.returned (.int .i64 0)∧Below w.heap.size w w':=by
  go_enter Try.func30,Try.ntmps30
  go_wp2_with fail
  refine (arena_head_nil _ _).mono ?_
  rintro e w1 ⟨rfl,hb1⟩
  go_wp2
  go_ret
  exact ⟨rfl,by have:=hb1.size; (repeat' (first | assumption | exact Below.refl _ _ | refine Below.drew ?_ | (refine Below.setCell ?_ ?_ _; rotate_left; focus (first | omega | (simp; done) | (simp; omega))) | (refine Below.alloc ?_ ?_ _; rotate_left; focus (first | omega | (simp; done) | (simp; omega)))))⟩
theorem arena_Len_nil (a:Int) (w:World):Calls Try.prog 32 #[.pointer none,.int .i64 a] w fun e w'=>e=.returned (.int .i64 0)∧Below w.heap.size w w':=by
  go_enter Try.func32,Try.ntmps32
  go_wp2_with fail
  refine (arena_head_nil _ _).mono ?_
  rintro e w1 ⟨rfl,hb1⟩
  go_wp2
  go_ret
  exact ⟨rfl,by have:=hb1.size; (repeat' (first | assumption | exact Below.refl _ _ | refine Below.drew ?_ | (refine Below.setCell ?_ ?_ _; rotate_left; focus (first | omega | (simp; done) | (simp; omega))) | (refine Below.alloc ?_ ?_ _; rotate_left; focus (first | omega | (simp; done) | (simp; omega)))))⟩
theorem arena_place_nil (a i:Int) (w:World):Calls Try.prog 62 #[.pointer none,.int .i64 a,.int .i64 i] w fun e w'=>e=.returned (.tuple #[.int .i64 0,.int .i64 2])∧Below w.heap.size w w':=by
  go_enter Try.func62,Try.ntmps62
  go_wp2_with fail
  refine (arena_head_nil _ _).mono ?_
  rintro e w1 ⟨rfl,hb1⟩
  go_wp2
  go_ret2
  exact ⟨rfl,by have:=hb1.size; (repeat' (first | assumption | exact Below.refl _ _ | refine Below.drew ?_ | (refine Below.setCell ?_ ?_ _; rotate_left; focus (first | omega | (simp; done) | (simp; omega))) | (refine Below.alloc ?_ ?_ _; rotate_left; focus (first | omega | (simp; done) | (simp; omega)))))⟩
theorem arena_Load_nil (a i:Int) (w:World):Calls Try.prog 34 #[.pointer none,.int .i64 a,.int .i64 i] w fun e w'=>e=.returned (.tuple #[.int .i64 0,.int .i64 2])∧Below w.heap.size w w':=by
  go_enter Try.func34,Try.ntmps34
  go_wp2_with fail
  refine (arena_place_nil _ _ _).mono ?_
  rintro e w1 ⟨rfl,hb1⟩
  go_wp2
  go_ret2
  exact ⟨rfl,hb1⟩
theorem arena_Store_nil (a i x:Int) (w:World):Calls Try.prog 21 #[.pointer none,.int .i64 a,.int .i64 i,.int .i64 x] w fun e w'=>e=.returned (.int .i64 2)∧Below w.heap.size w w':=by
  go_enter Try.func21,Try.ntmps21
  go_wp2_with fail
  refine (arena_place_nil _ _ _).mono ?_
  rintro e w1 ⟨rfl,hb1⟩
  go_wp2
  go_ret
  exact ⟨rfl,hb1⟩
theorem arena_Free_nil (a:Int) (w:World):Calls Try.prog 19 #[.pointer none,.int .i64 a] w fun e w'=>e=.returned (.int .i64 2)∧Below w.heap.size w w':=by
  go_enter Try.func19,Try.ntmps19
  go_wp2_with fail
  refine (arena_head_nil _ _).mono ?_
  rintro e w1 ⟨rfl,hb1⟩
  go_wp2
  go_ret
  exact ⟨rfl,by have:=hb1.size; (repeat' (first | assumption | exact Below.refl _ _ | refine Below.drew ?_ | (refine Below.setCell ?_ ?_ _; rotate_left; focus (first | omega | (simp; done) | (simp; omega))) | (refine Below.alloc ?_ ?_ _; rotate_left; focus (first | omega | (simp; done) | (simp; omega)))))⟩
theorem arena_Alloc_nil (k n:Int) (w:World):Calls Try.prog 23 #[.pointer none,.int .i64 k,.int .i64 n] w fun e w'=>e=.returned (.tuple #[.int .i64 0,.int .i64 2])∧Below w.heap.size w w':=by
  go_enter Try.func23,Try.ntmps23
  go_wp2_with fail
  refine (class_Of _ _).mono ?_
  rintro e w1 ⟨rfl,hb1⟩
  go_wp2
  go_ret2
  exact ⟨rfl,hb1⟩
theorem arena_Objects_nil (w:World):Calls Try.prog 26 #[.pointer none] w fun e w'=>e=.returned (.slice none 0 0)∧w=w':=by
  go_enter Try.func26,Try.ntmps26
  go_wp2_with fail
  refine (arena_Words_nil _).mono ?_
  rintro e w1 ⟨rfl,rfl⟩
  go_wp2
  refine wp_loop_rounds 1 ?_
  rw [rounds_succ]
  go_wp2
  go_ret
  exact ⟨rfl,rfl⟩
end Go.Proofs.Ytffnjpapggidlaa
namespace Go.Proofs.Ytffnjpapggidlaa
open Go.RowKit
theorem arena_fill_head (c:List ACell) (k n:Int) (p:Nat):(aCells c).setIfInBounds p (.iface 97 (.agg #[.int .i64 k,.int .i64 n]))=aCells (c.set p (.head k n)):=aCells_set c p (.head k n)
set_option maxHeartbeats 2000000 in
theorem arena_Alloc_bad (b:Nat) (s:ASt) (F:List Nat) (kind n:Int) (w:World) (hS:ArenaAt w b s F) (h:aBad kind n=true) :
    Calls Try.prog 23 #[.pointer (some ⟨b,0,none⟩),.int .i64 kind,.int .i64 n] w (ArenaDoes (.returned (.tuple #[.int .i64 0,.int .i64 1])) b s F w):=by
  have HS:=Lib.hid hS
  clear hS
  by_cases h1:kind<1
  · clear h
    go_enter Try.func23,Try.ntmps23
    go_wp2_with fail
    refine (class_Of _ _).mono ?_
    rintro e w1 ⟨rfl,hb1⟩
    go_wp2
    go_ret2
    exact ⟨rfl,HS.out.keep (Keeps.of_below hb1 []) (by simp),Keeps.of_below hb1 F⟩
  · by_cases h6:6<kind
    · clear h
      go_enter Try.func23,Try.ntmps23
      go_wp2_with fail
      refine (class_Of _ _).mono ?_
      rintro e w1 ⟨rfl,hb1⟩
      go_wp2
      go_ret2
      exact ⟨rfl,HS.out.keep (Keeps.of_below hb1 []) (by simp),Keeps.of_below hb1 F⟩
    · have hf:cFits n=false:=by
        unfold aBad at h
        rw [decide_eq_false h1,decide_eq_false h6] at h
        simpa using h
      clear h
      go_enter Try.func23,Try.ntmps23
      go_wp2_with fail
      refine (class_Of _ _).mono ?_
      rintro e w1 ⟨rfl,hb1⟩
      go_wp2
      go_ret2
      exact ⟨rfl,HS.out.keep (Keeps.of_below hb1 []) (by simp),Keeps.of_below hb1 F⟩
set_option maxHeartbeats 2000000 in
theorem arena_Alloc_room (b:Nat) (s:ASt) (F:List Nat) (kind n:Int) (w:World) (hS:ArenaAt w b s F) (h:aBad kind n=false) (hr:sAlloc (cOf n) s.l=none) :
    Calls Try.prog 23 #[.pointer (some ⟨b,0,none⟩),.int .i64 kind,.int .i64 n] w (ArenaDoes (.returned (.tuple #[.int .i64 0,.int .i64 9])) b s F w):=by
  have HS:=Lib.hid hS
  obtain ⟨k1,k6,hf⟩:=aBad_no h
  have hd:decide (6<kind)=false:=by simp; omega
  have hd1:decide (kind<1)=false:=by simp; omega
  have hv:sAllocV (cOf n) s.l=.tuple #[.int .i64 0,.int .i64 0,.bool false]:=by unfold sAllocV; rw [hr]
  have hl:sAllocL (cOf n) s.l=s.l:=by unfold sAllocL; rw [hr]
  have HV:=Lib.hid hv
  have HL:=Lib.hid hl
  clear hS h hr hv hl
  go_enter Try.func23,Try.ntmps23
  go_wp2_with fail
  refine (class_Of _ _).mono ?_
  rintro e w1 ⟨rfl,hb1⟩
  rw [hf]
  have HS1:=Lib.hid (HS.out.keep (Keeps.of_below hb1 []) (by simp))
  obtain ⟨sb,g,Fs,hb,hs,hc,hF,hok,n1,n2,n3⟩:=HS1.out
  have c0:=hb.cell 0
  simp at c0
  have HSP:=Lib.hid hs
  have HB:=Lib.hid hb
  have HC:=Lib.hid hc
  have HN:=Lib.hid (And.intro hF (And.intro hok (And.intro n1 (And.intro n2 n3))))
  have HK:=Lib.hid hb1
  clear hb hs hc hF hok n1 n2 n3 hb1
  go_wp2_with fail
  refine (span_Alloc _ _ _ _ _ HSP.out).mono ?_
  rintro e w2 ⟨rfl,hs2,hk2⟩
  rw [HV.out]
  rw [HL.out] at hs2
  go_wp2
  go_ret2
  obtain ⟨hF,hok,n1,n2,n3⟩:=HN.out
  exact ⟨rfl,⟨sb,g,Fs,hk2.blk HB.out n1,hs2,hk2.blk HC.out n2,hF,hok,n1,n2,n3⟩,(Keeps.of_below HK.out F).trans hk2 (by intro i hi; rw [hF]; simp [hi])⟩
set_option maxHeartbeats 4000000 in
theorem arena_Alloc_ok (b:Nat) (s:ASt) (F:List Nat) (kind n:Int) (w:World) (hS:ArenaAt w b s F) (h:aBad kind n=false) (i t:Nat) (l':List SRow) (hr:sAlloc (cOf n) s.l=some (i,t,l')) (p:Nat) (s':ASt) (ha:aAlloc kind n s=some (p,s')) :
    Calls Try.prog 23 #[.pointer (some ⟨b,0,none⟩),.int .i64 kind,.int .i64 n] w (ArenaDoes (.returned (.tuple #[.int .i64 p,.int .i64 0])) b s' F w):=by
  have HS:=Lib.hid hS
  have hsz:=hS.size
  obtain ⟨k1,k6,hf⟩:=aBad_no h
  obtain ⟨n0,n32,cc0,cc3,nW'⟩:=cOf_fits hf
  have hd:decide (6<kind)=false:=by simp; omega
  have hd1:decide (kind<1)=false:=by simp; omega
  have hv:sAllocV (cOf n) s.l=.tuple #[.int .i64 i,.int .i64 t,.bool true]:=by unfold sAllocV; rw [hr]
  have hl:sAllocL (cOf n) s.l=l':=by unfold sAllocL; rw [hr]
  have hok0:AOk s:=by obtain ⟨sb,g,Fs,hb,hs,hc,hF,hok,-⟩:=hS; exact hok
  obtain ⟨aok,alen,allen,apn⟩:=alloc_ok hok0 h ha
  have fa:=alloc_facts hok0.rows hr
  obtain ⟨gW,gs,gc⟩:=ws_geo cc0 cc3
  have gt:=slot_fit fa.slot gs
  have ilt:=fa.lt
  unfold aAlloc at ha
  rw [hr] at ha
  injection ha with ha
  injection ha with e1 e2
  generalize hWd:(cWords (cOf n)).toNat=W at *
  obtain ⟨q,hq⟩:∃ q:Nat,t * W=q:=⟨_,rfl⟩
  have hqi:(t:Int) * (W:Int)=(q:Int):=by rw [← hq]; simp
  rw [hq] at e1 e2 gt
  rw [e1] at e2
  have hpi:(i:Int) * 32+(q:Int)=((p:Nat):Int):=by omega
  obtain ⟨m,rfl⟩:=Int.eq_ofNat_of_zero_le n0
  simp only [Int.toNat_natCast] at e2 apn nW'
  have HV:=Lib.hid hv
  have HL:=Lib.hid hl
  have HCW:=Lib.hid gc
  have HE:=Lib.hid e2
  have HA:=Lib.hid (And.intro aok alen)
  have i128:i<128:=by omega
  have plt:(p:Int)<s.c.length:=by omega
  have p0:(0:Int)≤p:=by omega
  have pm:p+1+m≤s.c.length:=apn
  have l4:s.c.length≤4096:=by omega
  clear hS h hr hv hl hok0 aok alen allen apn fa gs gc gW gt hq hWd cc0 cc3 e1 e2 k1 k6 hsz
  go_enter Try.func23,Try.ntmps23
  go_wp2_with fail
  refine (class_Of _ _).mono ?_
  rintro e w1 ⟨rfl,hb1⟩
  rw [hf]
  have HS1:=Lib.hid (HS.out.keep (Keeps.of_below hb1 []) (by simp))
  obtain ⟨sb,g,Fs,hb,hs,hc,hF,hok,n1,n2,n3⟩:=HS1.out
  have c0:=hb.cell 0
  simp at c0
  have HSP:=Lib.hid hs
  have HB:=Lib.hid hb
  have HC:=Lib.hid hc
  have HN:=Lib.hid (And.intro hF (And.intro n1 (And.intro n2 n3)))
  have HK:=Lib.hid hb1
  clear hb hs hc hF hok n1 n2 n3 hb1
  go_wp2_with fail
  refine (span_Alloc _ _ _ _ _ HSP.out).mono ?_
  rintro e w2 ⟨rfl,hs2,hk2⟩
  rw [HV.out]
  rw [HL.out] at hs2
  have K2:=Lib.hid (show Keeps F w w2 from (Keeps.of_below HK.out F).trans hk2 (by intro i hi; rw [HN.out.1]; simp [hi]))
  have S2:=Lib.hid hs2
  have B2:=Lib.hid (hk2.blk HB.out HN.out.2.1)
  have C2:=Lib.hid (hk2.blk HC.out HN.out.2.2.1)
  clear hs2 hk2 c0
  go_wp2_with fail
  refine (class_Words _ _).mono ?_
  rintro e w3 ⟨rfl,hb3⟩
  rw [HCW.out]
  have K3:=Lib.hid (K2.out.next hb3)
  have S3:=Lib.hid (S2.out.keep (Keeps.of_below hb3 []) (by simp))
  have hB3:=(Keeps.of_below hb3 []).blk B2.out (by simp)
  have hC3:=(Keeps.of_below hb3 []).blk C2.out (by simp)
  have c1:=hB3.cell 1
  simp at c1
  have d:=hC3.cell p
  have fz:=hC3.free p
  obtain ⟨dv,hdv⟩:∃ v,(aCells s.c)[p]?=some v:=by rw [aCells_get]; exact ⟨_,by rw [List.getElem?_eq_getElem (by omega)]; rfl⟩
  rw [hdv] at d
  have B3:=Lib.hid hB3
  have C3:=Lib.hid hC3
  clear hB3 hC3 hdv hb3
  go_wp2
  go_loopw [64] (fun iv wr=>∃ k:Nat,k≤m∧iv=.int .i64 k∧Hid (Blk wr b 92 #[.pointer (some ⟨sb,0,none⟩),.slice (some ⟨g,0,none⟩) s.c.length s.c.length]∧Blk wr g 20 (aCells (aFill (s.c.set p (.head kind m)) (p+1) (.word 0) k))∧SpanAt wr sb l' Fs∧Keeps F w wr)) (fun iv _=>m - (intOf iv).toNat)
  case atStart =>
    obtain ⟨hF,n1,n2,n3⟩:=HN.out
    refine ⟨0,by omega,rfl,?_,?_,?_,?_⟩
    · exact B3.out.far (p:=⟨g,p,none⟩) n3 _
    · have:=C3.out.set p (ACell.head kind m).val
      rw [aCells_set] at this
      exact this
    · exact S3.out.keep ((Keeps.refl [g] _).set (by simp) _) (by intro i hi; simp; rintro rfl; exact n2 hi)
    · exact K3.out.set (by rw [hF]; simp) _
  case round =>
    obtain ⟨k,hk,rfl,hrr⟩:=hrel
    obtain ⟨hB4,hC4,hS4,hK4⟩:=hrr.out
    by_cases hlt:k<m
    · have c1':=hB4.cell 1
      simp at c1'
      obtain ⟨z,hz⟩:∃ z:Nat,p+1+k=z:=⟨_,rfl⟩
      have hzi:(p:Int)+1+(k:Int)=(z:Int):=by omega
      have z0:(0:Int)≤z:=by omega
      have z1:(z:Int)<s.c.length:=by omega
      have d':=hC4.cell z
      have fz':=hC4.free z
      obtain ⟨dv',hdv'⟩:∃ v,(aCells (aFill (s.c.set p (.head kind m)) (p+1) (.word 0) k))[z]?=some v:=by
        rw [aCells_get]; exact ⟨_,by rw [List.getElem?_eq_getElem (by rw [aFill_len,List.length_set]; omega)]; rfl⟩
      rw [hdv'] at d'
      clear hrr hdv'
      have HZ:=Lib.hid hz
      have B4:=Lib.hid hB4
      have C4:=Lib.hid hC4
      have S4:=Lib.hid hS4
      have K4:=Lib.hid hK4
      clear hz hB4 hC4 hS4 hK4 c1 d fz B3 C3 S3 K3
      go_wp2
      go_roundw
      case rel =>
        obtain ⟨hF,n1,n2,n3⟩:=HN.out
        refine ⟨k+1,by omega,by go_num,?_,?_,?_,?_⟩
        · exact B4.out.far (p:=⟨g,z,none⟩) n3 _
        · have:=C4.out.set z (ACell.word 0).val
          rw [aCells_set,← HZ.out] at this
          rw [← HZ.out]
          exact this
        · exact S4.out.keep ((Keeps.refl [g] _).set (by simp) _) (by intro i hi; simp; rintro rfl; exact n2 hi)
        · exact K4.out.set (by rw [hF]; simp) _
      case measure=>simp [intOf]; omega
    · have hkm:k=m:=by omega
      subst hkm
      clear hrr
      have B4:=Lib.hid hB4
      have C4:=Lib.hid hC4
      have S4:=Lib.hid hS4
      have K4:=Lib.hid hK4
      clear hB4 hC4 hS4 hK4 c1 d fz B3 C3 S3 K3
      go_wp2
      go_ret2
      obtain ⟨hF,n1,n2,n3⟩:=HN.out
      obtain ⟨aok,alen⟩:=HA.out
      have hE:=HE.out
      subst hE
      simp only at alen
      refine ⟨rfl,⟨sb,g,Fs,?_,S4.out,C4.out,hF,aok,n1,n2,n3⟩,K4.out⟩
      simp only
      rw [alen]
      exact B4.out
theorem arena_Alloc (b:Nat) (s:ASt) (F:List Nat) (kind n:Int) (w:World) (hS:ArenaAt w b s F) :
    Calls Try.prog 23 #[.pointer (some ⟨b,0,none⟩),.int .i64 kind,.int .i64 n] w (ArenaDoes (.returned (aAllocV kind n s)) b (aAllocS kind n s) F w):=by
  unfold aAllocV aAllocS
  cases h:aBad kind n with
  | true=>exact arena_Alloc_bad b s F kind n w hS h
  | false =>
    simp only [Bool.false_eq_true,if_false]
    cases hr:sAlloc (cOf n) s.l with
    | none =>
      have ha:aAlloc kind n s=none:=by unfold aAlloc; rw [hr]
      rw [ha]
      exact arena_Alloc_room b s F kind n w hS h hr
    | some x =>
      obtain ⟨i,t,l'⟩:=x
      cases ha:aAlloc kind n s with
      | none=>unfold aAlloc at ha; rw [hr] at ha; cases ha
      | some y =>
        obtain ⟨p,s'⟩:=y
        exact arena_Alloc_ok b s F kind n w hS h i t l' hr p s' ha
end Go.Proofs.Ytffnjpapggidlaa
namespace Go.Proofs.Ytffnjpapggidlaa
open Go.RowKit
def FreePre (W:World) (b sb g:Nat) (s:ASt) (Fs:List Nat) (wr:World):Prop :=
  Below W.heap.size W wr∧SpanAt wr sb s.l Fs∧Blk wr b 92 #[.pointer (some ⟨sb,0,none⟩),.slice (some ⟨g,0,none⟩) s.c.length s.c.length]∧Blk wr g 20 (aCells s.c)
theorem FreePre.next {W:World} {b sb g:Nat} {s:ASt} {Fs:List Nat} {w w':World} (h:Hid (FreePre W b sb g s Fs w)) (hb:Below w.heap.size w w'):Hid (FreePre W b sb g s Fs w')∧w'.cell? ⟨b,0,none⟩=some (.pointer (some ⟨sb,0,none⟩)):=by
  obtain ⟨h1,h2,h3,h4⟩:=h.out
  have h3':=(Keeps.of_below hb []).blk h3 (by simp)
  exact ⟨⟨h1.trans (hb.mono h1.size),h2.keep (Keeps.of_below hb []) (by simp),h3',(Keeps.of_below hb []).blk h4 (by simp)⟩,by simpa using h3'.cell 0⟩
theorem freeP_Class {W:World} {b sb g:Nat} {s:ASt} {Fs:List Nat} {w:World} (h:Hid (FreePre W b sb g s Fs w)) (i:Nat) (k:Int) (hk:sClass s.l i=k) :
    Calls Try.prog 10 #[.pointer (some ⟨sb,0,none⟩),.int .i64 i] w fun e w'=>e=.returned (.int .i64 k)∧w=w':=by
  rw [← hk]; exact span_Class _ _ _ _ _ h.out.2.1
def FreePost (W:World) (b sb g:Nat) (s:ASt) (l':List SRow) (Fs:List Nat) (wr:World):Prop :=
  Keeps Fs W wr∧SpanAt wr sb l' Fs∧Blk wr b 92 #[.pointer (some ⟨sb,0,none⟩),.slice (some ⟨g,0,none⟩) s.c.length s.c.length]∧Blk wr g 20 (aCells s.c)
theorem freeP_Free {W:World} {b sb g:Nat} {s:ASt} {Fs:List Nat} {w:World} (h:Hid (FreePre W b sb g s Fs w)) (i u:Nat) (hn:b ∉ Fs∧g ∉ Fs∧b≠g) :
    Calls Try.prog 11 #[.pointer (some ⟨sb,0,none⟩),.int .i64 i,.int .i64 u] w fun e w'=>e=.returned (.bool (sUsed s.l i u))∧Hid (FreePost W b sb g s (sFree s.l i u) Fs w')∧w'.cell? ⟨b,0,none⟩=some (.pointer (some ⟨sb,0,none⟩)):=by
  obtain ⟨h1,h2,h3,h4⟩:=h.out
  refine (span_Free _ _ _ _ _ _ h2).mono fun e w' ⟨he,hs,hk⟩=>⟨he,⟨(Keeps.of_below h1 Fs).trans hk (fun i hi=>.inl hi),hs,hk.blk h3 hn.1,hk.blk h4 hn.2.1⟩,by simpa using (hk.blk h3 hn.1).cell 0⟩
set_option maxHeartbeats 4000000 in
theorem arena_Free (b:Nat) (s:ASt) (F:List Nat) (a:Int) (w:World) (hS:ArenaAt w b s F) :
    Calls Try.prog 19 #[.pointer (some ⟨b,0,none⟩),.int .i64 a] w (ArenaDoes (.returned (.int .i64 (aFreeE a s))) b (aFreeS a s) F w):=by
  have HS:=Lib.hid hS
  have hsz:=hS.size
  have hok0:AOk s:=by obtain ⟨sb,g,Fs,hb,hs,hc,hF,hok,-⟩:=hS; exact hok
  cases h:aHead s.c a with
  | none =>
    have he:aFreeE a s=8:=by unfold aFreeE; rw [h]; rfl
    have hs:aFreeS a s=s:=by unfold aFreeS; rw [h]
    rw [he,hs]
    have HH:=Lib.hid (headV_none h)
    clear hS hsz hok0 he hs h
    go_enter Try.func19,Try.ntmps19
    go_wp2_with fail
    refine (arena_head _ _ _ _ _ HS.out).mono ?_
    rintro e w1 ⟨rfl,hb1⟩
    rw [HH.out]
    have hk:Keeps [] w (w1.alloc (.cells #[.int .i64 0,.int .i64 0] 97)):=(Keeps.of_below hb1 []).alloc _
    have HK:=Lib.hid hk
    clear hk hb1
    go_wp2
    go_ret
    exact ⟨rfl,HS.out.keep HK.out (by simp),HK.out.mono (by simp)⟩
  | some kn =>
    obtain ⟨k,n⟩:=kn
    obtain ⟨p,rfl,hp⟩:=aHead_some h
    obtain ⟨g1,g2,g3,g4,g5,g6,g7,g8,g9,g10,g11⟩:=head_geo hok0 hp
    obtain ⟨aok,alen,allen⟩:=free_ok hok0 p
    have he:aFreeE p s=0:=by unfold aFreeE; rw [h]; rfl
    have hs:aFreeS p s=⟨sFree s.l (p / 32:Nat) (p % 32 / nW s.l (p / 32):Nat),aFill s.c p .none (n.toNat+1)⟩:=by unfold aFreeS; rw [h]; simp only [Int.toNat_natCast]
    rw [hs] at aok alen
    rw [he,hs]
    have HH:=Lib.hid (headV_some h)
    obtain ⟨i,hi⟩:∃ i:Nat,p / 32=i:=⟨_,rfl⟩
    obtain ⟨r,hr⟩:∃ r:Nat,p % 32=r:=⟨_,rfl⟩
    obtain ⟨W,hW⟩:∃ W:Nat,nW s.l i=W:=⟨_,rfl⟩
    obtain ⟨u,hu⟩:∃ u:Nat,r / W=u:=⟨_,rfl⟩
    rw [hr,hi,hW,hu] at aok alen ⊢
    rw [hi] at g4 g5 g6 g8 g1
    rw [hW] at g4 g5 g6 g8
    obtain ⟨m,rfl⟩:=Int.eq_ofNat_of_zero_le g7
    simp only [Int.toNat_natCast] at aok alen g8 g9 ⊢
    have HA:=Lib.hid (And.intro aok alen)
    have HC4:=Lib.hid g4
    have p4:p<4096:=by omega
    have q1:(p:Int) / 32=(i:Int):=by omega
    have q2:(p:Int) % 32=(r:Int):=by omega
    have q1':(p:Int).tdiv 32=(i:Int):=by rw [Int.tdiv_eq_ediv_of_nonneg (by omega)]; exact q1
    have q2':(p:Int).tmod 32=(r:Int):=by rw [Int.tmod_eq_emod_of_nonneg (by omega)]; exact q2
    have q3:(r:Int) / (W:Int)=(u:Int):=by rw [← hu]; exact (Int.natCast_ediv _ _).symm
    have q3':(r:Int).tdiv (W:Int)=(u:Int):=by rw [Int.tdiv_eq_ediv_of_nonneg (by omega)]; exact q3
    have r32:r<32:=by omega
    have u32:u≤r:=by rw [← hu]; exact Nat.div_le_self _ _
    have w1:IntKind.i64.wrap (i:Int)=i:=IntWalk.i64_in _ (by omega)
    have w2:IntKind.i64.wrap (u:Int)=u:=IntWalk.i64_in _ (by omega)
    have w3:IntKind.i64.wrap (r:Int)=r:=IntWalk.i64_in _ (by omega)
    have W0:¬ (W:Int)=0:=by omega
    have W1:¬ W=0:=by omega
    have Q:=Lib.hid (And.intro w1 (And.intro w2 (And.intro w3 (And.intro q1' (And.intro q2' q3')))))
    have pm:p+1+m≤s.c.length:=g9
    have l4:s.c.length≤4096:=by omega
    have m32:m<32:=by omega
    clear hS hsz hok0 he hs h hp g1 g2 g3 g4 g5 g6 g7 g8 g9 g10 g11 aok alen allen hi hr hW hu q2 q3 q1' q2' q3' w1 w2 w3
    go_enter Try.func19,Try.ntmps19
    go_wp2_with fail
    refine (arena_head _ _ _ _ _ HS.out).mono ?_
    rintro e w1 ⟨rfl,hb1⟩
    rw [HH.out]
    obtain ⟨W',hWe⟩:∃ W',w1.alloc (.cells #[.int .i64 k,.int .i64 m] 97)=W':=⟨_,rfl⟩
    have K1:Keeps [] w W':=by rw [← hWe]; exact (Keeps.of_below hb1 []).alloc _
    have hB:Blk W' w1.heap.size 97 #[.int .i64 k,.int .i64 m]:=by rw [← hWe]; exact Blk.new _ _ _
    have HS1:=Lib.hid (HS.out.keep K1 (by simp))
    obtain ⟨sb,g,Fs,hb,hs,hc,hF,hok,hn⟩:=HS1.out
    have hh:=hB.cell 1
    simp at hh
    have c0:=hb.cell 0
    simp at c0
    have hne:w1.heap.size ∉ F:=fun hm=>by have:=HS.out.lt _ hm; have:=hb1.size; omega
    have P0:Hid (FreePre W' b sb g s Fs W'):=⟨Below.refl _ _,hs,hb,hc⟩
    obtain ⟨P1,c1⟩:=FreePre.next P0 (Below.refl _ _).drew
    have HHB:=Lib.hid hB
    have HK1:=Lib.hid K1
    have HN:=Lib.hid hn
    have HF:=Lib.hid hF
    have HNE:=Lib.hid hne
    clear hb hs hc hF hok hn K1 hB hb1 hne
    go_wp2
    obtain ⟨w1,w2,w3,q1',q2',q3'⟩:=Q.out
    go_region_held3 (fun (w':World)=>w'.cell? ⟨b,0,none⟩=some (.pointer (some ⟨sb,0,none⟩))) (first | assumption | go_keep)
      (first
        | (go_at_call 10; refine (freeP_Class (by assumption) i _ rfl).mono ?_; rintro e wa ⟨rfl,rfl⟩)
        | (go_at_call 57; refine (class_Words _ _).mono ?_; rintro e wb ⟨rfl,hbw⟩; rw [HC4.out]; obtain ⟨Pb,cb⟩:=FreePre.next (by assumption) hbw)
        | (go_at_call 11; refine (freeP_Free (by assumption) i u HN.out).mono ?_; rintro e wc ⟨rfl,Pc,cc⟩))
    have hpc:=Lib.hid (show Hid (FreePost W' b sb g s (sFree s.l i u) Fs _) by assumption)
    obtain ⟨K5,S5,B5,C5⟩:=hpc.out.out
    have H5:=K5.blk HHB.out (by intro hm; exact HNE.out (by rw [HF.out]; simp [hm]))
    have e5:=H5.cell 1
    simp at e5
    have K6:=Lib.hid (show Keeps F w _ from (HK1.out.mono (G:=F) (by simp)).trans K5 (by intro i hi; rw [HF.out]; simp [hi]))
    clear w1 w2 w3 q1' q2' q3' H5 K5
    have S6:=Lib.hid S5
    have B6:=Lib.hid B5
    have C6:=Lib.hid C5
    clear S5 B5 C5 hh c0 c1 P0 P1 q1 W0 W1 r32 u32
    go_wp2
    go_loopw [42] (fun iv wr=>∃ k':Nat,k'≤m+1∧iv=.int .i64 k'∧Hid (Blk wr b 92 #[.pointer (some ⟨sb,0,none⟩),.slice (some ⟨g,0,none⟩) s.c.length s.c.length]∧Blk wr g 20 (aCells (aFill s.c p .none k'))∧SpanAt wr sb (sFree s.l i u) Fs∧Keeps F w wr)) (fun iv _=>m+1 - (intOf iv).toNat)
    case atStart=>exact ⟨0,by omega,rfl,B6.out,C6.out,S6.out,K6.out⟩
    case round =>
      obtain ⟨k',hk,rfl,hrr⟩:=hrel
      clear hpc e5
      obtain ⟨hB4,hC4,hS4,hK4⟩:=hrr.out
      by_cases hlt:k'<m+1
      · have c1':=hB4.cell 1
        simp at c1'
        obtain ⟨z,hz⟩:∃ z:Nat,p+k'=z:=⟨_,rfl⟩
        have hzi:(p:Int)+(k':Int)=(z:Int):=by omega
        have z0:(0:Int)≤z:=by omega
        have z1:(z:Int)<s.c.length:=by omega
        have d':=hC4.cell z
        have fz':=hC4.free z
        obtain ⟨dv',hdv'⟩:∃ v,(aCells (aFill s.c p .none k'))[z]?=some v:=by
          rw [aCells_get]; exact ⟨_,by rw [List.getElem?_eq_getElem (by rw [aFill_len]; omega)]; rfl⟩
        rw [hdv'] at d'
        clear hrr hdv'
        have HZ:=Lib.hid hz
        have B4:=Lib.hid hB4
        have C4:=Lib.hid hC4
        have S4:=Lib.hid hS4
        have K4:=Lib.hid hK4
        clear hz hB4 hC4 hS4 hK4
        go_wp2
        go_roundw
        case rel =>
          obtain ⟨n1,n2,n3⟩:=HN.out
          refine ⟨k'+1,by omega,by go_num,?_,?_,?_,?_⟩
          · exact B4.out.far (p:=⟨g,z,none⟩) n3 _
          · have:=C4.out.set z ACell.none.val
            rw [aCells_set,← HZ.out] at this
            rw [← HZ.out]
            exact this
          · exact S4.out.keep ((Keeps.refl [g] _).set (by simp) _) (by intro i hi; simp; rintro rfl; exact n2 hi)
          · exact K4.out.set (by rw [HF.out]; simp) _
        case measure=>simp [intOf]; omega
      · have hkm:k'=m+1:=by omega
        subst hkm
        clear hrr
        have B4:=Lib.hid hB4
        have C4:=Lib.hid hC4
        have S4:=Lib.hid hS4
        have K4:=Lib.hid hK4
        clear hB4 hC4 hS4 hK4
        go_wp2
        go_ret
        obtain ⟨n1,n2,n3⟩:=HN.out
        obtain ⟨aok,alen⟩:=HA.out
        refine ⟨rfl,⟨sb,g,Fs,?_,S4.out,C4.out,HF.out,aok,n1,n2,n3⟩,K4.out⟩
        simp only
        rw [alen]
        exact B4.out
end Go.Proofs.Ytffnjpapggidlaa
namespace Go.Proofs.Ytffnjpapggidlaa
open Go.RowKit
theorem info_int7:(Try.prog.info? 3).map (fun i=>(i.zero,i.size,i.bytes))=some (some (.int .i64 0),1,8):=by kernel_rfl
theorem info_any:(Try.prog.info? 20).map (fun i=>(i.zero,i.size,i.bytes))=some (some .nilIface,1,16):=by kernel_rfl
def objsTo (c:List ACell) (k:Nat):List Nat:=(List.range k).filter fun p=>(aHead c p).isSome
theorem objs_succ (c:List ACell) (k:Nat):objsTo c (k+1)=objsTo c k ++ if (aHead c k).isSome then [k] else []:=by
  unfold objsTo
  rw [List.range_succ,List.filter_append]
  congr 1
  simp [List.filter_cons]
theorem objs_le (c:List ACell) (k:Nat):(objsTo c k).length≤k:=Nat.le_trans (List.length_filter_le _ _) (by simp)
def natV (l:List Nat):List Value:=l.map fun (p:Nat)=>.int .i64 p
def GivesInts (l:List Nat) (w:World) (e:Ending) (w':World):Prop:=∃ v,e=.returned v∧w'.ownsRow 0 3 1 v l.length (natV l)∧Keeps [] w w'∧Hid (∀ g,v.ownBlock=some g→w.heap.size≤g)
set_option maxHeartbeats 2000000 in
theorem arena_Objects (b:Nat) (s:ASt) (F:List Nat) (w:World) (hS:ArenaAt w b s F) :
    Calls Try.prog 26 #[.pointer (some ⟨b,0,none⟩)] w (GivesInts (aObjects s.c) w):=by
  obtain ⟨i0,hi,hz0,hz1,hz2⟩:=info_parts info_int7
  have hsz:=hS.size
  have l4:s.c.length≤4096:=by omega
  have HS:=Lib.hid hS
  clear hS hsz
  go_enter Try.func26,Try.ntmps26
  go_wp2_with fail
  refine (arena_Words _ _ _ _ HS.out).mono ?_
  rintro e w1 ⟨rfl,rfl⟩
  go_wp2
  go_loopw [3,9] (fun v iv wr=>∃ k:Nat,k≤s.c.length∧iv=.int .i64 k∧Hid (wr.ownsRow 0 3 1 v (objsTo s.c k).length (natV (objsTo s.c k))∧Keeps [] w wr)∧Hid (∀ g,v.ownBlock=some g→w.heap.size≤g)) (fun _ iv _=>s.c.length - (intOf iv).toNat)
  case atStart=>exact ⟨0,by omega,rfl,⟨World.ownsRow_nil _ _ _ _,Keeps.refl _ _⟩,by intro g hg; cases hg⟩
  case round =>
    obtain ⟨k,hk,rfl,hown,hfr⟩:=hrel
    by_cases hlt:k<s.c.length
    · have HSr:=Lib.hid (HS.out.keep hown.out.2 (by simp))
      have hsu:=objs_succ s.c k
      have hle:=objs_le s.c k
      cases hd:aHead s.c k with
      | none =>
        rw [hd] at hsu
        have HH:=Lib.hid (headV_none hd)
        have HSU:=Lib.hid hsu
        clear hsu hd
        go_wp2_with fail
        refine (arena_head _ _ _ _ _ HSr.out).mono ?_
        rintro e w2 ⟨rfl,hb2⟩
        rw [HH.out]
        have HB2:=Lib.hid hb2
        clear hb2
        go_wp2
        go_roundw
        case rel =>
          refine ⟨k+1,by omega,by go_num,⟨?_,(hown.out.2.next HB2.out).alloc _⟩,hfr⟩
          have e:objsTo s.c (k+1)=objsTo s.c k:=by rw [HSU.out]; simp
          rw [e]
          exact ((Keeps.of_below HB2.out []).alloc _).own hown.out.1 (by simp)
        case measure=>simp [intOf]; omega
      | some kn =>
        obtain ⟨kk,nn⟩:=kn
        rw [hd] at hsu
        have HH:=Lib.hid (headV_some hd)
        have HSU:=Lib.hid hsu
        have HD:=Lib.hid hd
        clear hsu hd
        go_wp2_with fail
        refine (arena_head _ _ _ _ _ HSr.out).mono ?_
        rintro e w2 ⟨rfl,hb2⟩
        rw [HH.out]
        have hk2:Keeps [] w (w2.alloc (.cells #[.int .i64 kk,.int .i64 nn] 97)):=(hown.out.2.next hb2).alloc _
        have hown2:=((Keeps.of_below hb2 []).alloc (.cells #[.int .i64 kk,.int .i64 nn] 97)).own hown.out.1 (by simp)
        have HK2:=Lib.hid hk2
        obtain ⟨W,hW⟩:∃ W,w2.alloc (.cells #[.int .i64 kk,.int .i64 nn] 97)=W:=⟨_,rfl⟩
        rw [hW] at hown2
        rw [hW] at HK2
        clear hk2 hb2
        go_wp2_with (at_builtin; refine wpList_append_own_at _ rfl _ _ 22 rfl 0 3 i0 (.int .i64 0) 1 8 Try.underlying22 hi hz0 hz1 hz2 rfl (by decide) _ _ _ rfl (hown2.alloc _) ⟨W.heap.size,0,none⟩ 1 1 [.int .i64 k] rfl rfl (cell_one_new _ _ _) ?c2 ?c3 ?c4 ?c5 ?_)
        case c2=>first | rfl | (intro u hu; simp at hu; subst hu; rfl)
        case c3=>unfold maxLen; omega
        case c4=>omega
        case c5=>omega
        intro v' w3 hown3 hg3 _ hat
        have hfr3:Hid (∀ g,v'.ownBlock=some g→w.heap.size≤g):=by
          intro g hg
          rcases hat with h | h
          · exact hfr.out g (by rw [← h]; exact hg)
          · rw [hg] at h; injection h with h; have:=HK2.out.size; (try simp at h); omega
        have HK3:=Lib.hid (show Keeps [] w w3 from (HK2.out.alloc _).grown hg3 (fun k hk=>.inr (hfr.out k hk)))
        obtain ⟨g,cap,hv,-⟩:=own_form hown3 (by omega)
        subst hv
        have O3:=Lib.hid hown3
        clear hg3 hat hown2 hown3 hW
        go_wp2
        go_roundw
        case rel =>
          refine ⟨k+1,by omega,by go_num,⟨?_,HK3.out⟩,hfr3⟩
          have e:objsTo s.c (k+1)=objsTo s.c k ++ [k]:=by rw [HSU.out]; simp
          rw [e]
          have:=O3.out
          simpa [natV] using this
        case measure=>simp [intOf]; omega
    · have hkn:k=s.c.length:=by omega
      subst hkn
      go_wp2
      go_ret
      exact ⟨_,rfl,hown.out.1,hown.out.2,hfr⟩
theorem made_any (m:Nat):madeCells #[Value.nilIface] m=aCells (List.replicate m .none):=by
  apply Array.ext_getElem?
  intro j
  rw [aCells_get]
  unfold madeCells
  simp [List.getElem?_replicate,Array.getElem?_map,Array.getElem?_range]
  split <;> simp [ACell.val,Nat.mod_one]
def GivesArena (s:ASt) (w:World) (e:Ending) (w':World):Prop :=
  ∃ b F,e=.returned (.tuple #[.pointer (some ⟨b,0,none⟩),.int .i64 0])∧ArenaAt w' b s F∧Keeps [] w w'∧∀ i ∈ F,w.heap.size≤i
theorem arena_New_no (n:Int) (hn:n<2 ∨ 128<n) (w:World) :
    Calls Try.prog 15 #[.int .i64 n] w fun e w'=>e=.returned (.tuple #[.pointer none,.int .i64 1])∧w=w':=by
  go_enter Try.func15,Try.ntmps15
  go_wp2_with fail
  refine (span_New_no n hn _).mono ?_
  rintro e w1 ⟨rfl,rfl⟩
  go_wp2
  go_ret2
  exact ⟨rfl,rfl⟩
set_option maxHeartbeats 1000000 in
theorem arena_New (n:Nat) (h2:2≤n) (h128:n≤128) (w:World) :
    Calls Try.prog 15 #[.int .i64 n] w (GivesArena (aNew n) w):=by
  obtain ⟨i0,hi,hz0,hz1,hz2⟩:=info_parts info_any
  obtain ⟨m,hm⟩:∃ m:Nat,32 * n=m:=⟨_,rfl⟩
  have hmi:(n:Int) * 32=(m:Int):=by omega
  have hmk:∀ W:World,(Instr.makeSlice 90 (.int .i64 (m:Int)) (.int .i64 (m:Int))).run Try.prog W=.ok (.slice (some ⟨W.heap.size,0,none⟩) m m) (W.alloc (.cells (aCells (List.replicate m .none)) 20)):=by
    intro W
    have hr:=run_make (P:=Try.prog) W 90 20 i0 .nilIface Try.underlying90 hi hz0 .i64 .i64 m m (by omega) (by omega) (by rw [hz2]; omega) (by omega)
    rw [hz1] at hr
    simp only [Int.toNat_natCast,Nat.mul_one] at hr
    rw [hr,← made_any]
    rfl
  have HM:=Lib.hid hm
  clear hm
  go_enter Try.func15,Try.ntmps15
  go_wp2_with fail
  refine (span_New n h2 h128 _).mono ?_
  rintro e w1 ⟨rfl,Fs,hs,hk,hf⟩
  have HS:=Lib.hid hs
  have HK:=Lib.hid hk
  have HF:=Lib.hid hf
  clear hs hk hf
  go_wp2
  go_ret2
  have hl:=HS.out.lt
  have hsz:=HK.out.size
  have hml:(aNew n).c.length=m:=by rw [← HM.out]; simp [aNew]
  refine ⟨w1.heap.size+1,(w1.heap.size+1)::w1.heap.size::Fs,rfl,⟨w.heap.size,w1.heap.size,Fs,?_,?_,?_,rfl,aNew_ok n,?_,?_,by omega⟩,(HK.out.alloc _).alloc _,?_⟩
  · rw [hml]
    have:=Blk.new (w1.alloc (.cells (aCells (List.replicate m .none)) 20)) 92 #[.pointer (some ⟨w.heap.size,0,none⟩),.slice (some ⟨w1.heap.size,0,none⟩) m m]
    simpa using this
  · exact HS.out.keep (((Keeps.refl [] _).alloc _).alloc _) (by simp)
  · have:(aNew n).c=List.replicate m .none:=by rw [← HM.out]; rfl
    rw [this]
    exact (Blk.new _ _ _).alloc _
  · intro h; have:=hl _ h; omega
  · intro h; have:=hl _ h; omega
  · intro i hi
    simp at hi
    rcases hi with rfl | rfl | hi
    · omega
    · omega
    · exact HF.out i hi
end Go.Proofs.Ytffnjpapggidlaa
