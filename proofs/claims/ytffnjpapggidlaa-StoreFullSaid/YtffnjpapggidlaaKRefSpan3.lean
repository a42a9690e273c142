/- RefSpan3 -/
import Derived.Test.YtffnjpapggidlaaKRefSpan2
import Derived.Test.YtffnjpapggidlaaKClass
namespace Go.Proofs.Ytffnjpapggidlaa
open Go.RowKit
theorem first_of_pad {r:SRow} {x:Nat} (hx:x<r.2.length) (hall:∀ y,y<x→pad r y=true) (h:pad r x=false):firstFree r.2=some x:=by
  unfold firstFree
  rw [List.findIdx?_eq_some_iff_getElem]
  unfold pad at h hall
  rw [List.getElem?_eq_getElem hx] at h
  refine ⟨hx,by simpa using h,fun j hj=>?_⟩
  have:=hall j hj
  rw [List.getElem?_eq_getElem (by omega)] at this
  simpa using this
theorem full_of_pad {r:SRow} (hall:∀ y,y<r.2.length→pad r y=true):firstFree r.2=none:=by
  unfold firstFree
  rw [List.findIdx?_eq_none_iff]
  intro b hb
  obtain ⟨j,hj,e⟩:=List.mem_iff_getElem.1 hb
  have:=hall j hj
  unfold pad at this
  rw [List.getElem?_eq_getElem hj,e] at this
  simpa using this
set_option maxRecDepth 100000 in
set_option maxHeartbeats 4000000 in
theorem rspan_Alloc (b:Nat) (l:List SRow) (F:List Nat) (k:Int) (w:World) (hS:RSpanAt w b l F) :
    Calls Try.prog 64 #[.pointer (some ⟨b,0,none⟩),.int .i64 k] w (RSpanDoes (.returned (sAllocV k l)) b (sAllocL k l) F w):=by
  have HS:=Lib.hid hS
  by_cases hz:cSlots k=0
  · have e1:sAllocV k l=.tuple #[.int .i64 0,.int .i64 0,.bool false]:=by unfold sAllocV sAlloc; rw [if_pos hz]
    have e2:sAllocL k l=l:=by unfold sAllocL sAlloc; rw [if_pos hz]
    rw [e1,e2]
    have HZ:=Lib.hid hz
    clear hS e1 e2 hz
    go_enter Try.func64,Try.ntmps64
    go_wp2_with fail
    refine (refc_Slots _ _).mono ?_
    rintro e w1 ⟨rfl,hb1⟩
    rw [HZ.out]
    go_wp2
    go_ret3
    exact ⟨rfl,HS.out.keep (Keeps.of_below hb1 []) (by simp),Keeps.of_below hb1 F⟩
  · obtain ⟨k0,k3,s1,s8⟩:=slots_pos hz
    obtain ⟨n,hn⟩:=Int.eq_ofNat_of_zero_le (show 0≤cSlots k by omega)
    have HN:=Lib.hid hn
    have HZ:=Lib.hid hz
    have n1:1≤n:=by omega
    have n8:n≤8:=by omega
    have hnz:((n:Int) == 0)=false:=by rw [beq_eq_false_iff_ne]; omega
    clear hS hn hz s1 s8
    go_enter Try.func64,Try.ntmps64
    go_wp2_with fail
    refine (refc_Slots _ _).mono ?_
    rintro e w1 ⟨rfl,hb1⟩
    rw [HN.out]
    have HS1:=Lib.hid (HS.out.keep (Keeps.of_below hb1 []) (by simp))
    have HB1:=Lib.hid hb1
    obtain ⟨g1,c1,g2,c2,hb,hr,hs,m1,m2,hF,hl,hok,hd⟩:=HS1.out
    have e0:=hb.cell 0
    have e1:=hb.cell 1
    simp at e0 e1
    unfold maxLen at m1 m2
    have hl1:l.length≤c1:=by obtain ⟨_,_,_,h,_⟩:=hr; exact h
    have hl2:l.length≤c2:=by obtain ⟨_,_,_,h,_⟩:=hs; exact h
    have HB:=Lib.hid hb
    have HR:=Lib.hid hr
    have HSL:=Lib.hid hs
    have HF:=Lib.hid hF
    have HOK:=Lib.hid hok
    have HD:=Lib.hid hd
    clear hb hr hs hF hok hd hb1
    go_wp2
    go_loopw [8] (fun iv wr=>∃ j:Nat,j≤l.length∧iv=.int .i64 j∧Hid (wr=w1∧∀ r ∈ l.take j,rowFree k r=false)) (fun iv _=>l.length - (intOf iv).toNat)
    case atStart=>exact ⟨0,by omega,rfl,Lib.hid (by simp)⟩
    case round =>
      obtain ⟨j,hj,rfl,hrr⟩:=hrel
      obtain ⟨hwr,hall⟩:=hrr.out
      subst hwr
      have HA:=Lib.hid hall
      clear hall hrr
      by_cases hlt:j<l.length
      · have i1:(j:Int)<l.length:=by omega
        have i0:(0:Int)≤j:=by omega
        obtain ⟨y0,-⟩:=HR.out.cell j hlt
        have hro:=HOK.out _ (List.getElem_mem hlt)
        by_cases hc:(l[j]'hlt).1=k
        · have hln:(l[j]'hlt).2.length=n:=by
            rcases hro with ⟨h1,_⟩ | ⟨_,_,h3,_⟩
            · omega
            · rw [hc,HN.out] at h3; omega
          have hyb:((l[j]'hlt).1 == k)=true:=by simpa using hc
          rw [hc] at y0
          go_wp2
          go_loopw [9] (fun xv wx=>∃ x:Nat,x≤n∧xv=.int .i64 x∧Hid (wx=wr∧∀ y,y<x→pad (l[j]'hlt) y=true)) (fun xv _=>n - (intOf xv).toNat)
          case atStart=>exact ⟨0,by omega,rfl,Lib.hid ⟨by trivial,by intro y hy; omega⟩⟩
          case round =>
            obtain ⟨x,hx,rfl,hxx⟩:=hrel
            obtain ⟨hwx,hpall⟩:=hxx.out
            subst hwx
            have HP:=Lib.hid hpall
            clear hpall hxx
            by_cases hxn:x<n
            · obtain ⟨z0,z1⟩:=HSL.out.cell j hlt x (by omega)
              have x0:(0:Int)≤x:=by omega
              have x1:(x:Int)<n:=by omega
              have x8:(x:Int)<8:=by omega
              cases hp:pad (l[j]'hlt) x with
              | false =>
                have hff:=first_of_pad (r:=l[j]'hlt) (by omega) HP.out hp
                have hrf:rowFree k (l[j]'hlt)=true:=by unfold rowFree; rw [hff,decide_eq_true hc]; rfl
                have hal:=sAlloc_at hlt HZ.out HA.out hrf
                rw [hff] at hal
                have v1:sAllocV k l=.tuple #[.int .i64 j,.int .i64 x,.bool true]:=by unfold sAllocV; rw [hal]; rfl
                have v2:sAllocL k l=l.set j ((l[j]'hlt).1,(l[j]'hlt).2.set x true):=by unfold sAllocL; rw [hal]; rfl
                have V1:=Lib.hid v1
                have V2:=Lib.hid v2
                rw [hp] at z0
                have HRO:=Lib.hid hro
                have HLN:=Lib.hid hln
                clear hp hff hrf hal v1 v2 hro hln hc
                go_wp2
                go_ret3
                rw [V1.out,V2.out]
                have hd:=HD.out
                obtain ⟨d1,d2,d3⟩:=hd
                refine ⟨rfl,⟨g1,c1,g2,c2,?_,?_,?_,by unfold maxLen; omega,by unfold maxLen; omega,HF.out,by simpa using hl,set_ok HOK.out j (set_true_ok HRO.out x (by rw [HLN.out]; exact hxn)),d1,d2,d3⟩,(Keeps.of_below HB1.out F).set (by rw [HF.out]; simp) _⟩
                · simpa using HB.out.far (p:=⟨g2,j * 8+x,none⟩) d2 (.bool true)
                · exact (HR.out.keep ((Keeps.refl [g2] _).set (p:=⟨g2,j * 8+x,none⟩) (by simp) (.bool true)) (by simpa using d3)).same j hlt _ rfl
                · exact HSL.out.set j hlt x (by omega) true _ (fun y _=>pad_set _ _ (by rw [HLN.out]; exact hxn) _ _)
              | true =>
                have HPX:=Lib.hid hp
                rw [hp] at z0
                clear hp
                go_wp2
                go_roundw
                case rel =>
                  refine ⟨x+1,by omega,by go_num,Lib.hid ⟨by trivial,?_⟩⟩
                  intro y hy
                  by_cases e:y=x
                  · subst e; exact HPX.out
                  · exact HP.out y (by omega)
                case measure=>simp [intOf]; omega
            · have hxe:x=n:=by omega
              subst hxe
              have hff:=full_of_pad (r:=l[j]'hlt) (by rw [hln]; exact HP.out)
              have HRF:=Lib.hid (show rowFree k (l[j]'hlt)=false by unfold rowFree; rw [hff]; simp)
              clear hff
              go_wp2
              go_roundw
              case rel =>
                refine ⟨j+1,by omega,by go_num,Lib.hid ⟨by trivial,?_⟩⟩
                intro r hr'
                rw [List.take_succ_eq_append_getElem hlt] at hr'
                rcases List.mem_append.1 hr' with h | h
                · exact HA.out r h
                · simp at h; subst h; exact HRF.out
              case measure=>simp [intOf]; omega
        · have hyb:((l[j]'hlt).1 == k)=false:=by simpa using hc
          have HRF:=Lib.hid (show rowFree k (l[j]'hlt)=false by unfold rowFree; rw [decide_eq_false hc]; simp)
          clear hc hro
          go_wp2
          refine wp_loop_rounds 1 ?_
          rw [rounds_succ]
          go_wp2
          go_roundw
          case rel =>
            refine ⟨j+1,by omega,by go_num,Lib.hid ⟨by trivial,?_⟩⟩
            intro r hr'
            rw [List.take_succ_eq_append_getElem hlt] at hr'
            rcases List.mem_append.1 hr' with h | h
            · exact HA.out r h
            · simp at h; subst h; exact HRF.out
          case measure=>simp [intOf]; omega
      · have hje:j=l.length:=by omega
        subst hje
        have HALL:=Lib.hid (show ∀ r ∈ l,rowFree k r=false by have:=HA.out; rw [List.take_of_length_le (Nat.le_refl _)] at this; exact this)
        clear HA
        go_wp2
        go_loopw [10] (fun iv wx=>∃ j:Nat,j≤l.length∧iv=.int .i64 j∧Hid (wx=wr∧∀ r ∈ l.take j,isNone r=false)) (fun iv _=>l.length - (intOf iv).toNat)
        case atStart=>exact ⟨0,by omega,rfl,Lib.hid (by simp)⟩
        case round =>
          obtain ⟨j,hj,rfl,hrr⟩:=hrel
          obtain ⟨hwr,hall⟩:=hrr.out
          subst hwr
          have HA:=Lib.hid hall
          clear hall hrr
          by_cases hlt:j<l.length
          · have i1:(j:Int)<l.length:=by omega
            have i0:(0:Int)≤j:=by omega
            obtain ⟨y0,y1⟩:=HR.out.cell j hlt
            obtain ⟨z0,z1⟩:=HSL.out.cell j hlt 0 (by omega)
            rw [Nat.add_zero] at z0 z1
            have hro:=HOK.out _ (List.getElem_mem hlt)
            by_cases hc:(l[j]'hlt).1<0
            · have hne:(l[j]'hlt).1=-1∧(l[j]'hlt).2=[]:=by
                rcases hro with h | ⟨h,_⟩
                · exact h
                · omega
              have hfi:l.findIdx? isNone=some j:=findIdx_at hlt HA.out (by unfold isNone; rw [hne.1]; rfl)
              have hal:=sAlloc_new HZ.out HALL.out hfi
              rw [HN.out] at hal
              simp only [Int.toNat_natCast] at hal
              have v1:sAllocV k l=.tuple #[.int .i64 j,.int .i64 0,.bool true]:=by unfold sAllocV; rw [hal]; rfl
              have v2:sAllocL k l=l.set j (k,(List.replicate n false).set 0 true):=by unfold sAllocL; rw [hal]
              have hnew:RowOk (k,(List.replicate n false).set 0 true):=by have:=new_ok k0 k3 (by have:=HN.out; omega); rw [HN.out] at this; simpa using this
              have hpads:∀ y,pad (k,(List.replicate n false).set 0 true) y=if y=0 then true else pad (l[j]'hlt) y:=by
                intro y
                have:=pad_set (k,List.replicate n false) 0 (by simp; omega) true y
                rw [this]
                by_cases e:y=0
                · rw [if_pos e,if_pos e]
                · rw [if_neg e,if_neg e]
                  unfold pad
                  rw [hne.2]
                  simp [List.getElem?_replicate]
              have V1:=Lib.hid v1
              have V2:=Lib.hid v2
              have NW:=Lib.hid hnew
              have PD:=Lib.hid hpads
              rw [hne.1] at y0
              have d3:=HD.out.2.2
              have kk1:∀ u,Keeps [g1] wr (wr.setCell ⟨g1,j,none⟩ u):=fun u=>(Keeps.refl [g1] wr).set (by simp) u
              have kk2:∀ u,Keeps [g2] wr (wr.setCell ⟨g2,j * 8,none⟩ u):=fun u=>(Keeps.refl [g2] wr).set (by simp) u
              have q1:∀ u,(wr.setCell ⟨g1,j,none⟩ u).cell? ⟨g2,j * 8,none⟩=some (.bool (pad (l[j]'hlt) 0)):=fun u=>by have:=((HSL.out.keep (kk1 u) (by simpa using fun e=>d3 e.symm)).cell j hlt 0 (by omega)).1; rwa [Nat.add_zero] at this
              have q2:∀ u,(wr.setCell ⟨g1,j,none⟩ u).frozen? ⟨g2,j * 8,none⟩=false:=fun u=>by have:=((HSL.out.keep (kk1 u) (by simpa using fun e=>d3 e.symm)).cell j hlt 0 (by omega)).2; rwa [Nat.add_zero] at this
              have q3:∀ u,(wr.setCell ⟨g2,j * 8,none⟩ u).cell? ⟨g1,j,none⟩=some (.int .i64 (-1)):=fun u=>by have:=((HR.out.keep (kk2 u) (by simpa using d3)).cell j hlt).1; rwa [hne.1] at this
              have q4:∀ u,(wr.setCell ⟨g2,j * 8,none⟩ u).frozen? ⟨g1,j,none⟩=false:=fun u=>((HR.out.keep (kk2 u) (by simpa using d3)).cell j hlt).2
              clear kk1 kk2 d3
              clear hne hfi hal v1 v2 hnew hpads hro hc
              go_wp2
              go_region
              all_goals
                go_wp2
                go_ret3
                rw [V1.out,V2.out]
                obtain ⟨d1,d2,d3⟩:=HD.out
                refine ⟨rfl,⟨g1,c1,g2,c2,?_,?_,?_,by unfold maxLen; omega,by unfold maxLen; omega,HF.out,by simpa using hl,set_ok HOK.out j NW.out,d1,d2,d3⟩,?_⟩
                · first
                    | simpa using (((HB.out.far (p:=⟨g1,j,none⟩) d1 (.int .i64 k)).far (p:=⟨g2,j * 8,none⟩) d2 (.bool true)).drew)
                    | simpa using (((HB.out.far (p:=⟨g2,j * 8,none⟩) d2 (.bool true)).far (p:=⟨g1,j,none⟩) d1 (.int .i64 k)).drew)
                · first
                    | exact (HR.out.set j hlt (k,(List.replicate n false).set 0 true)).keep (((Keeps.refl [g2] _).set (p:=⟨g2,j * 8,none⟩) (by simp) (.bool true)).drew) (by simpa using d3)
                    | exact ((HR.out.keep ((Keeps.refl [g2] _).set (p:=⟨g2,j * 8,none⟩) (by simp) (.bool true)) (by simpa using d3)).set j hlt (k,(List.replicate n false).set 0 true)).keep ((Keeps.refl [] _).drew) (by simp)
                · first
                    | exact ((HSL.out.keep ((Keeps.refl [g1] _).set (p:=⟨g1,j,none⟩) (by simp) (.int .i64 k)) (by simpa using fun e=>d3 e.symm)).set j hlt 0 (by omega) true (k,(List.replicate n false).set 0 true) (fun y _=>PD.out y)).keep ((Keeps.refl [] _).drew) (by simp)
                    | exact (HSL.out.set j hlt 0 (by omega) true (k,(List.replicate n false).set 0 true) (fun y _=>PD.out y)).keep (((Keeps.refl [g1] _).set (p:=⟨g1,j,none⟩) (by simp) (.int .i64 k)).drew) (by simpa using fun e=>d3 e.symm)
                · exact (((Keeps.of_below HB1.out F).set (by rw [HF.out]; simp) _).set (by rw [HF.out]; simp) _).drew
            · have HRF:=Lib.hid (show isNone (l[j]'hlt)=false by unfold isNone; rw [decide_eq_false (by omega)])
              have hc':((l[j]'hlt).1<0)=False:=by simp; omega
              clear hro
              go_wp2
              go_roundw
              case rel =>
                refine ⟨j+1,by omega,by go_num,Lib.hid ⟨by trivial,?_⟩⟩
                intro r hr'
                rw [List.take_succ_eq_append_getElem hlt] at hr'
                rcases List.mem_append.1 hr' with h | h
                · exact HA.out r h
                · simp at h; subst h; exact HRF.out
              case measure=>simp [intOf]; omega
          · have hje:j=l.length:=by omega
            subst hje
            have hnone:=findIdx_no (p:=isNone) (l:=l) (by have:=HA.out; rw [List.take_of_length_le (Nat.le_refl _)] at this; exact this)
            have hal:=sAlloc_none HZ.out HALL.out hnone
            have v1:sAllocV k l=.tuple #[.int .i64 0,.int .i64 0,.bool false]:=by unfold sAllocV; rw [hal]
            have v2:sAllocL k l=l:=by unfold sAllocL; rw [hal]
            have V1:=Lib.hid v1
            have V2:=Lib.hid v2
            clear hnone hal v1 v2
            go_wp2
            go_ret3
            rw [V1.out,V2.out]
            exact ⟨rfl,HS1.out,Keeps.of_below HB1.out F⟩
end Go.Proofs.Ytffnjpapggidlaa
