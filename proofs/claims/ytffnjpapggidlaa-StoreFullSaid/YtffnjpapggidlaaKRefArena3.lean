/- RefArena3 -/
import Derived.Test.YtffnjpapggidlaaKRefArena
import Derived.Test.YtffnjpapggidlaaKSpan5
import Derived.Test.YtffnjpapggidlaaKPureArena
namespace Go.Proofs.Ytffnjpapggidlaa
open Go.RowKit
set_option linter.unusedVariables false
section
variable {w0 w:World} {F0:List Nat} {ps:List Piece} {b sb g:Nat} {s:ASt}
set_option maxRecDepth 100000 in
set_option maxHeartbeats 4000000 in
theorem ra_Alloc (h:St w0 F0 (RArenaP b sb g s::ps) w) (kind n:Int) :
    Calls Try.prog 24 #[.pointer (some ⟨b,0,none⟩),.int .i64 kind,.int .i64 n] w fun e w'=>e=.returned (aAllocV kind n s)∧St w0 F0 (RArenaP b sb g (aAllocS kind n s)::ps) w':=by
  cases hb:aBad kind n with
  | true =>
    have e1:aAllocV kind n s=.tuple #[.int .i64 0,.int .i64 1]:=by unfold aAllocV; rw [hb]; rfl
    have e2:aAllocS kind n s=s:=by unfold aAllocS; rw [hb]; rfl
    rw [e1,e2]; clear e1 e2
    by_cases h1:kind<1
    · clear hb
      go_enter Try.func24,Try.ntmps24
      go_wp2_with fail
      refine (refc_ClassOf _ _).mono ?_
      rintro e w1 ⟨rfl,hb1⟩
      go_wp2
      go_ret2
      exact ⟨rfl,h.below hb1⟩
    · by_cases h6:6<kind
      · clear hb
        go_enter Try.func24,Try.ntmps24
        go_wp2_with fail
        refine (refc_ClassOf _ _).mono ?_
        rintro e w1 ⟨rfl,hb1⟩
        go_wp2
        go_ret2
        exact ⟨rfl,h.below hb1⟩
      · have hf:cFits n=false:=by
          unfold aBad at hb
          rw [decide_eq_false h1,decide_eq_false h6] at hb
          simpa using hb
        have HF:=Lib.hid hf
        have hd:decide (6<kind)=false:=by simp; omega
        have hd1:decide (kind<1)=false:=by simp; omega
        clear hb hf h1 h6
        go_enter Try.func24,Try.ntmps24
        go_wp2_with fail
        refine (refc_ClassOf _ _).mono ?_
        rintro e w1 ⟨rfl,hb1⟩
        rw [HF.out]
        go_wp2
        go_ret2
        exact ⟨rfl,h.below hb1⟩
  | false =>
    obtain ⟨k1,k6,hf⟩:=aBad_no hb
    have hd:decide (6<kind)=false:=by simp; omega
    have hd1:decide (kind<1)=false:=by simp; omega
    have HF:=Lib.hid hf
    cases hr:sAlloc (cOf n) s.l with
    | none =>
      have ha:aAlloc kind n s=none:=by unfold aAlloc; rw [hr]
      have e1:aAllocV kind n s=.tuple #[.int .i64 0,.int .i64 9]:=by unfold aAllocV; rw [hb,ha]; rfl
      have e2:aAllocS kind n s=s:=by unfold aAllocS; rw [hb,ha]; rfl
      have hv:sAllocV (cOf n) s.l=.tuple #[.int .i64 0,.int .i64 0,.bool false]:=by unfold sAllocV; rw [hr]
      have hl:sAllocL (cOf n) s.l=s.l:=by unfold sAllocL; rw [hr]
      have HV:=Lib.hid (And.intro hv hl)
      rw [e1,e2]; clear e1 e2 hb hr ha hv hl hf
      go_enter Try.func24,Try.ntmps24
      go_wp2_with fail
      refine (refc_ClassOf _ _).mono ?_
      rintro e w1 ⟨rfl,hb1⟩
      rw [HF.out]
      obtain ⟨W,hW,hok,hcl,h128,h1⟩:=(h.below hb1).openR
      have c0:=h1.cell 0 rfl 0 rfl
      clear h hb1
      go_wp2_with fail
      refine (rs_Alloc h1.pick1 _).mono ?_
      rintro e w2 ⟨rfl,h2⟩
      rw [HV.out.1]
      rw [HV.out.2] at h2
      go_wp2
      go_ret2
      exact ⟨rfl,h2.pick1.closeR hW hok⟩
    | some x =>
      obtain ⟨i,t,l'⟩:=x
      cases ha:aAlloc kind n s with
      | none=>unfold aAlloc at ha; rw [hr] at ha; cases ha
      | some y =>
        obtain ⟨p,s'⟩:=y
        obtain ⟨hok,hcl,h128⟩:=h.rok
        obtain ⟨n0,n32,cc0,cc3,nW'⟩:=cOf_fits hf
        have e1:aAllocV kind n s=.tuple #[.int .i64 p,.int .i64 0]:=by unfold aAllocV; rw [hb,ha]; rfl
        have e2:aAllocS kind n s=s':=by unfold aAllocS; rw [hb,ha]; rfl
        have hv:sAllocV (cOf n) s.l=.tuple #[.int .i64 i,.int .i64 t,.bool true]:=by unfold sAllocV; rw [hr]
        have hl:sAllocL (cOf n) s.l=l':=by unfold sAllocL; rw [hr]
        obtain ⟨aok,alen,allen,apn⟩:=alloc_ok hok hb ha
        have fa:=alloc_facts hok.rows hr
        obtain ⟨gW,gs,gc⟩:=ws_geo cc0 cc3
        have gt:=slot_fit fa.slot gs
        have ilt:=fa.lt
        obtain ⟨W,hW0,-⟩:=h.openR
        obtain ⟨ep,eend,-⟩:=RW.alloc hok hW0 hb hr ha
        have hRW:∀ W,RW s W→RW s' ((zeros W p (cWords (cOf n)).toNat).set p (kind+16 * n)):=fun W hW=>(RW.alloc hok hW hb hr ha).2.2
        have hl':s'.l=l':=by
          have:=ha; unfold aAlloc at this; rw [hr] at this; injection this with this; injection this with _ this; rw [← this]
        generalize hWd:(cWords (cOf n)).toNat=N at *
        obtain ⟨q,hq⟩:∃ q:Nat,t * N=q:=⟨_,rfl⟩
        have hqi:(t:Int) * (N:Int)=(q:Int):=by rw [← hq]; simp
        rw [hq] at ep gt
        have hpi:(i:Int) * 32+(q:Int)=(p:Int):=by omega
        have HV:=Lib.hid (And.intro hv hl)
        have HG:=Lib.hid gc
        have HA:=Lib.hid (And.intro aok (And.intro alen hl'))
        have HR:=Lib.hid hRW
        have i128:i<128:=by omega
        have plt:(p:Int)<s.c.length:=by omega
        have p0:(0:Int)≤p:=by omega
        have pN:p+N≤s.c.length:=by omega
        have l4:s.c.length≤4096:=by omega
        have N0:0<N:=by omega
        have N32:N≤32:=by omega
        rw [e1,e2]; clear e1 e2 hb hr ha hv hl hf aok alen allen apn fa gs gc gW gt hq hWd cc0 cc3 hW0 W hRW hl' ep eend k1 k6 hok hcl h128
        go_enter Try.func24,Try.ntmps24
        go_wp2_with fail
        refine (refc_ClassOf _ _).mono ?_
        rintro e w1 ⟨rfl,hb1⟩
        rw [HF.out]
        obtain ⟨W,hW,hok,hcl,h128,h1⟩:=(h.below hb1).openR
        have HW:=Lib.hid hW
        have c0:=h1.cell 0 rfl 0 rfl
        clear h hb1 hW hok hcl h128
        go_wp2_with fail
        refine (rs_Alloc h1.pick1 _).mono ?_
        rintro e w2 ⟨rfl,h2⟩
        rw [HV.out.1]
        rw [HV.out.2] at h2
        clear h1 c0
        go_wp2_with fail
        refine (refc_Words _ _).mono ?_
        rintro e w3 ⟨rfl,hb3⟩
        rw [HG.out]
        have h3:=(h2.below hb3).pick1
        clear h2 hb3
        go_wp2
        go_loopw [13] (fun jv wr=>∃ j:Nat,j≤N∧jv=.int .i64 j∧St w0 F0 (BlkP b 57 #[.pointer (some ⟨sb,0,none⟩),.slice (some ⟨g,0,none⟩) s.c.length s.c.length]::RSpanP sb l'::BlkP g 3 (iA (zeros W p j))::ps) wr) (fun jv _=>N - (intOf jv).toNat)
        case atStart=>exact ⟨0,by omega,rfl,h3⟩
        case round =>
          obtain ⟨j,hj,rfl,h4⟩:=hrel
          clear h3
          by_cases hlt:j<N
          · have z1:(p:Int)+(j:Int)<s.c.length:=by omega
            obtain ⟨z,hz⟩:∃ z:Nat,p+j=z:=⟨_,rfl⟩
            have hzi:(p:Int)+(j:Int)=(z:Int):=by omega
            have HZ:=Lib.hid hz
            have hWl:z<(zeros W p j).length:=by rw [zeros_len,HW.out.1]; omega
            clear hz
            go_wp2_with fail
            refine (refc_Words _ _).mono ?_
            rintro e w4 ⟨rfl,hb4⟩
            rw [HG.out]
            have h5:=h4.below hb4
            have c1:=h5.cell 0 rfl 1 rfl
            have cw:=h5.cell 2 rfl z (iA_at _ z (List.getElem?_eq_getElem hWl))
            have fw:=h5.free 2 rfl z
            clear h4 hb4
            go_wp2
            go_roundw
            case rel =>
              refine ⟨j+1,by omega,by go_num,?_⟩
              have h6:=(h5.pick2.set z (.int .i64 0)).back2
              rw [iA_set,← HZ.out] at h6
              rw [← HZ.out]
              exact h6
            case measure=>simp [intOf]; omega
          · have hje:j=N:=by omega
            subst hje
            go_wp2_with fail
            refine (refc_Words _ _).mono ?_
            rintro e w4 ⟨rfl,hb4⟩
            rw [HG.out]
            have h5:=h4.below hb4
            have hWl:p<(zeros W p j).length:=by rw [zeros_len,HW.out.1]; omega
            have c1:=h5.cell 0 rfl 1 rfl
            have cw:=h5.cell 2 rfl p (iA_at _ p (List.getElem?_eq_getElem hWl))
            have fw:=h5.free 2 rfl p
            have n4:(16:Int) * n≤512:=by omega
            have n5:(0:Int)≤16 * n:=by omega
            have hk6:kind≤6:=by simpa using hd
            have hk1:1≤kind:=by simpa using hd1
            clear h4 hb4
            go_wp2
            go_ret2
            obtain ⟨aok,alen,hl'⟩:=HA.out
            refine ⟨rfl,St.closeR (W:=(zeros W p j).set p (kind+16 * n)) ?_ (HR.out W HW.out) aok⟩
            have h6:=(h5.pick2.set p (.int .i64 (kind+16 * n))).back2
            rw [iA_set] at h6
            rw [alen,hl']
            exact h6
theorem oV_to (s:ASt) (k:Nat):(List.map (fun p=>((p:Nat):Int)) (objsTo s.c (k+1)))=List.map (fun p=>((p:Nat):Int)) (objsTo s.c k) ++ (if (aHead s.c k).isSome then [(k:Int)] else []):=by
  rw [objs_succ,List.map_append]; split <;> rfl
set_option maxHeartbeats 1000000 in
theorem ra_Objects (h:St w0 F0 (RArenaP b sb g s::ps) w) :
    Calls Try.prog 18 #[.pointer (some ⟨b,0,none⟩)] w fun e w'=>∃ v,e=.returned v∧St w0 F0 (RowP v (hObjs s)::RArenaP b sb g s::ps) w':=by
  obtain ⟨hok,hcl,h128⟩:=h.rok
  go_enter Try.func18,Try.ntmps18
  go_wp2
  go_loopw [3,4] (fun v iv wr=>∃ k:Nat,k≤s.c.length∧iv=.int .i64 k∧St w0 F0 (RowP v ((objsTo s.c k).map fun p=>((p:Nat):Int))::RArenaP b sb g s::ps) wr) (fun _ iv _=>s.c.length - (intOf iv).toNat)
  case atStart=>exact ⟨0,by omega,rfl,h.nil⟩
  case round =>
    obtain ⟨k,hk,rfl,h1⟩:=hrel
    clear h
    have hR:=h1.pick1
    obtain ⟨Wn,hx1,hx2,hx3,hx4,h2⟩:=hR.openR
    have c1:=h2.cell 0 rfl 1 rfl
    clear h2 hx1 hx2 hx3 hx4 Wn
    have hsu:=oV_to s k
    have hle:=objs_le s.c k
    by_cases hlt:k<s.c.length
    · cases hd:(aHead s.c k).isSome with
      | false =>
        rw [hd] at hsu
        have HS:=Lib.hid hsu
        have HD:=Lib.hid hd
        clear hsu hd
        go_wp2_with fail
        refine (ra_is hR _).mono ?_
        rintro e w3 ⟨rfl,h3⟩
        rw [HD.out]
        have h4:=h3.pick1
        clear hR h1 h3 c1
        go_wp2
        go_roundw
        case rel=>exact ⟨k+1,by omega,by go_num,by rw [HS.out]; simpa using h4⟩
        case measure=>simp [intOf]; omega
      | true =>
        rw [hd] at hsu
        have HS:=Lib.hid hsu
        have HD:=Lib.hid hd
        clear hsu hd
        go_wp2_with fail
        refine (ra_is hR _).mono ?_
        rintro e w3 ⟨rfl,h3⟩
        rw [HD.out]
        have h4:=h3.pick1
        clear hR h1 h3 c1
        go_wp2_with (at_builtin; refine wpList_grow rfl _ _ rfl h4 rfl rfl rfl ?_ ?_)
        · rw [List.length_map]; omega
        · intro v' w4 h5 hne
          obtain ⟨_,p,c,rfl,-⟩:=h5.shape 0 rfl
          clear h4
          go_wp2
          go_roundw
          case rel=>exact ⟨k+1,by omega,by go_num,by rw [HS.out]; exact h5⟩
          case measure=>simp [intOf]; omega
    · have hkn:k=s.c.length:=by omega
      subst hkn
      go_wp2
      go_ret
      exact ⟨_,rfl,h1⟩
theorem made_zero (m:Nat):madeCells #[Value.int .i64 0] m=iA (List.replicate m 0):=by
  apply Array.ext_getElem?
  intro j
  rw [iA_get]
  unfold madeCells
  simp [List.getElem?_replicate,Array.getElem?_map,Array.getElem?_range]
  split <;> simp [Nat.mod_one]
set_option maxHeartbeats 1000000 in
theorem ra_New {n:Nat} (hn2:2≤n) (hn:n≤128) (h:St w0 F0 ps w) :
    Calls Try.prog 16 #[.int .i64 n] w fun e w'=>∃ b sb g,e=.returned (.tuple #[.pointer (some ⟨b,0,none⟩),.int .i64 0])∧St w0 F0 (RArenaP b sb g (aNew n)::ps) w':=by
  obtain ⟨i0,hi,hz0,hz1,hz2⟩:=info_parts info_iV
  obtain ⟨m,hm⟩:∃ m:Nat,32 * n=m:=⟨_,rfl⟩
  have hmi:(n:Int) * 32=(m:Int):=by omega
  have hmk:∀ W:World,(Instr.makeSlice 22 (.int .i64 (m:Int)) (.int .i64 (m:Int))).run Try.prog W=.ok (.slice (some ⟨W.heap.size,0,none⟩) m m) (W.alloc (.cells (iA (List.replicate m 0)) 3)):=by
    intro W
    have hr:=run_make (P:=Try.prog) W 22 3 i0 (.int .i64 0) Try.underlying22 hi hz0 .i64 .i64 m m (by omega) (by omega) (by rw [hz2]; omega) (by omega)
    rw [hz1] at hr
    simp only [Int.toNat_natCast,Nat.mul_one] at hr
    rw [hr,← made_zero]
    rfl
  have HM:=Lib.hid hm
  clear hm
  go_enter Try.func16,Try.ntmps16
  go_wp2_with fail
  refine (rs_New hn2 hn h).mono ?_
  rintro e w1 ⟨B,rfl,h1⟩
  go_wp2
  go_ret2
  refine ⟨_,B,w1.heap.size,rfl,?_⟩
  have h2:=h1.new (iA (List.replicate m 0)) 3
  have h3:=h2.new #[.pointer (some ⟨B,0,none⟩),.slice (some ⟨w1.heap.size,0,none⟩) m m] 57
  have hml:(aNew n).c.length=m:=by rw [← HM.out]; simp [aNew]
  have h4:=h3.swap1
  refine St.closeR (W:=List.replicate m 0) ?_ (RW.new n _ (by rw [List.length_replicate]; exact HM.out.symm)) (aNew_ok n)
  rw [hml]
  rw [show (aNew n).l=sNew n from rfl]
  simpa using h4
end
end Go.Proofs.Ytffnjpapggidlaa
