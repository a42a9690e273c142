/- RefArena3 AppM GHelp -/
import Derived.Test.YtaojmbkmicjecaaGreatKRefArena
import Derived.Test.YtaojmbkmicjecaaGreatKSpan5
import Derived.Test.YtaojmbkmicjecaaGreatKPureArena
import Derived.Test.YtaojmbkmicjecaaGreatKOrdersL
import Derived.Test.YtaojmbkmicjecaaGreatKView2N
import Derived.Test.YtaojmbkmicjecaaGreatKPrim
import Derived.Test.YtaojmbkmicjecaaGreatKEv2
import Derived.Test.YtaojmbkmicjecaaGreatKMem
import Derived.Deep.LoopGhost
import Derived.KernelRfl
namespace Go.Proofs.YtaojmbkmicjecaaGreat
open Go.RowKit
set_option linter.unusedVariables false
section
variable {w0 w:World} {F0:List Nat} {ps:List Piece} {b sb g:Nat} {s:ASt}
set_option maxRecDepth 100000 in
set_option maxHeartbeats 4000000 in
theorem ra_Alloc (h:St w0 F0 (RArenaP b sb g s::ps) w) (kind n:Int) :
    Calls Tryz.prog 132 #[.pointer (some ⟨b,0,none⟩),.int .i64 kind,.int .i64 n] w fun e w'=>e=.returned (aAllocV kind n s)∧St w0 F0 (RArenaP b sb g (aAllocS kind n s)::ps) w':=by
  cases hb:aBad kind n with
  | true =>
    have e1:aAllocV kind n s=.tuple #[.int .i64 0,.int .i64 1]:=by unfold aAllocV; rw [hb]; rfl
    have e2:aAllocS kind n s=s:=by unfold aAllocS; rw [hb]; rfl
    rw [e1,e2]; clear e1 e2
    by_cases h1:kind<1
    · clear hb
      go_enter Tryz.func132,Tryz.ntmps132
      go_wp2_with fail
      refine (refc_ClassOf _ _).mono ?_
      rintro e w1 ⟨rfl,hb1⟩
      go_wp2
      go_ret2
      exact ⟨rfl,h.below hb1⟩
    · by_cases h6:6<kind
      · clear hb
        go_enter Tryz.func132,Tryz.ntmps132
        go_wp2_with fail
        refine (refc_ClassOf _ _).mono ?_
        rintro e w1 ⟨rfl,hb1⟩
        go_wp2
        go_ret2
        exact ⟨rfl,h.below hb1⟩
      · have hf:cFits n=false:=by
          unfold aBad at hb
          rw [decide_eq_false h1,decide_eq_false h6] at hb
          simpa using hb
        have HF:=Lib.hid hf
        have hd:decide (6<kind)=false:=by simp; omega
        have hd1:decide (kind<1)=false:=by simp; omega
        clear hb hf h1 h6
        go_enter Tryz.func132,Tryz.ntmps132
        go_wp2_with fail
        refine (refc_ClassOf _ _).mono ?_
        rintro e w1 ⟨rfl,hb1⟩
        rw [HF.out]
        go_wp2
        go_ret2
        exact ⟨rfl,h.below hb1⟩
  | false =>
    obtain ⟨k1,k6,hf⟩:=aBad_no hb
    have hd:decide (6<kind)=false:=by simp; omega
    have hd1:decide (kind<1)=false:=by simp; omega
    have HF:=Lib.hid hf
    cases hr:sAlloc (cOf n) s.l with
    | none =>
      have ha:aAlloc kind n s=none:=by unfold aAlloc; rw [hr]
      have e1:aAllocV kind n s=.tuple #[.int .i64 0,.int .i64 9]:=by unfold aAllocV; rw [hb,ha]; rfl
      have e2:aAllocS kind n s=s:=by unfold aAllocS; rw [hb,ha]; rfl
      have hv:sAllocV (cOf n) s.l=.tuple #[.int .i64 0,.int .i64 0,.bool false]:=by unfold sAllocV; rw [hr]
      have hl:sAllocL (cOf n) s.l=s.l:=by unfold sAllocL; rw [hr]
      have HV:=Lib.hid (And.intro hv hl)
      rw [e1,e2]; clear e1 e2 hb hr ha hv hl hf
      go_enter Tryz.func132,Tryz.ntmps132
      go_wp2_with fail
      refine (refc_ClassOf _ _).mono ?_
      rintro e w1 ⟨rfl,hb1⟩
      rw [HF.out]
      obtain ⟨W,hW,hok,hcl,h128,h1⟩:=(h.below hb1).openR
      have c0:=h1.cell 0 rfl 0 rfl
      clear h hb1
      go_wp2_with fail
      refine (rs_Alloc h1.pick1 _).mono ?_
      rintro e w2 ⟨rfl,h2⟩
      rw [HV.out.1]
      rw [HV.out.2] at h2
      go_wp2
      go_ret2
      exact ⟨rfl,h2.pick1.closeR hW hok⟩
    | some x =>
      obtain ⟨i,t,l'⟩:=x
      cases ha:aAlloc kind n s with
      | none=>unfold aAlloc at ha; rw [hr] at ha; cases ha
      | some y =>
        obtain ⟨p,s'⟩:=y
        obtain ⟨hok,hcl,h128⟩:=h.rok
        obtain ⟨n0,n32,cc0,cc3,nW'⟩:=cOf_fits hf
        have e1:aAllocV kind n s=.tuple #[.int .i64 p,.int .i64 0]:=by unfold aAllocV; rw [hb,ha]; rfl
        have e2:aAllocS kind n s=s':=by unfold aAllocS; rw [hb,ha]; rfl
        have hv:sAllocV (cOf n) s.l=.tuple #[.int .i64 i,.int .i64 t,.bool true]:=by unfold sAllocV; rw [hr]
        have hl:sAllocL (cOf n) s.l=l':=by unfold sAllocL; rw [hr]
        obtain ⟨aok,alen,allen,apn⟩:=alloc_ok hok hb ha
        have fa:=alloc_facts hok.rows hr
        obtain ⟨gW,gs,gc⟩:=ws_geo cc0 cc3
        have gt:=slot_fit fa.slot gs
        have ilt:=fa.lt
        obtain ⟨W,hW0,-⟩:=h.openR
        obtain ⟨ep,eend,-⟩:=RW.alloc hok hW0 hb hr ha
        have hRW:∀ W,RW s W→RW s' ((zeros W p (cWords (cOf n)).toNat).set p (kind+16 * n)):=fun W hW=>(RW.alloc hok hW hb hr ha).2.2
        have hl':s'.l=l':=by
          have:=ha; unfold aAlloc at this; rw [hr] at this; injection this with this; injection this with _ this; rw [← this]
        generalize hWd:(cWords (cOf n)).toNat=N at *
        obtain ⟨q,hq⟩:∃ q:Nat,t * N=q:=⟨_,rfl⟩
        have hqi:(t:Int) * (N:Int)=(q:Int):=by rw [← hq]; simp
        rw [hq] at ep gt
        have hpi:(i:Int) * 32+(q:Int)=(p:Int):=by omega
        have HV:=Lib.hid (And.intro hv hl)
        have HG:=Lib.hid gc
        have HA:=Lib.hid (And.intro aok (And.intro alen hl'))
        have HR:=Lib.hid hRW
        have i128:i<128:=by omega
        have plt:(p:Int)<s.c.length:=by omega
        have p0:(0:Int)≤p:=by omega
        have pN:p+N≤s.c.length:=by omega
        have l4:s.c.length≤4096:=by omega
        have N0:0<N:=by omega
        have N32:N≤32:=by omega
        rw [e1,e2]; clear e1 e2 hb hr ha hv hl hf aok alen allen apn fa gs gc gW gt hq hWd cc0 cc3 hW0 W hRW hl' ep eend k1 k6 hok hcl h128
        go_enter Tryz.func132,Tryz.ntmps132
        go_wp2_with fail
        refine (refc_ClassOf _ _).mono ?_
        rintro e w1 ⟨rfl,hb1⟩
        rw [HF.out]
        obtain ⟨W,hW,hok,hcl,h128,h1⟩:=(h.below hb1).openR
        have HW:=Lib.hid hW
        have c0:=h1.cell 0 rfl 0 rfl
        clear h hb1 hW hok hcl h128
        go_wp2_with fail
        refine (rs_Alloc h1.pick1 _).mono ?_
        rintro e w2 ⟨rfl,h2⟩
        rw [HV.out.1]
        rw [HV.out.2] at h2
        clear h1 c0
        go_wp2_with fail
        refine (refc_Words _ _).mono ?_
        rintro e w3 ⟨rfl,hb3⟩
        rw [HG.out]
        have h3:=(h2.below hb3).pick1
        clear h2 hb3
        go_wp2
        go_loopw [13] (fun jv wr=>∃ j:Nat,j≤N∧jv=.int .i64 j∧St w0 F0 (BlkP b 156 #[.pointer (some ⟨sb,0,none⟩),.slice (some ⟨g,0,none⟩) s.c.length s.c.length]::RSpanP sb l'::BlkP g 3 (iA (zeros W p j))::ps) wr) (fun jv _=>N - (intOf jv).toNat)
        case atStart=>exact ⟨0,by omega,rfl,h3⟩
        case round =>
          obtain ⟨j,hj,rfl,h4⟩:=hrel
          clear h3
          by_cases hlt:j<N
          · have z1:(p:Int)+(j:Int)<s.c.length:=by omega
            obtain ⟨z,hz⟩:∃ z:Nat,p+j=z:=⟨_,rfl⟩
            have hzi:(p:Int)+(j:Int)=(z:Int):=by omega
            have HZ:=Lib.hid hz
            have hWl:z<(zeros W p j).length:=by rw [zeros_len,HW.out.1]; omega
            clear hz
            go_wp2_with fail
            refine (refc_Words _ _).mono ?_
            rintro e w4 ⟨rfl,hb4⟩
            rw [HG.out]
            have h5:=h4.below hb4
            have c1:=h5.cell 0 rfl 1 rfl
            have cw:=h5.cell 2 rfl z (iA_at _ z (List.getElem?_eq_getElem hWl))
            have fw:=h5.free 2 rfl z
            clear h4 hb4
            go_wp2
            go_roundw
            case rel =>
              refine ⟨j+1,by omega,by go_num,?_⟩
              have h6:=(h5.pick2.set z (.int .i64 0)).back2
              rw [iA_set,← HZ.out] at h6
              rw [← HZ.out]
              exact h6
            case measure=>simp [intOf]; omega
          · have hje:j=N:=by omega
            subst hje
            go_wp2_with fail
            refine (refc_Words _ _).mono ?_
            rintro e w4 ⟨rfl,hb4⟩
            rw [HG.out]
            have h5:=h4.below hb4
            have hWl:p<(zeros W p j).length:=by rw [zeros_len,HW.out.1]; omega
            have c1:=h5.cell 0 rfl 1 rfl
            have cw:=h5.cell 2 rfl p (iA_at _ p (List.getElem?_eq_getElem hWl))
            have fw:=h5.free 2 rfl p
            have n4:(16:Int) * n≤512:=by omega
            have n5:(0:Int)≤16 * n:=by omega
            have hk6:kind≤6:=by simpa using hd
            have hk1:1≤kind:=by simpa using hd1
            clear h4 hb4
            go_wp2
            go_ret2
            obtain ⟨aok,alen,hl'⟩:=HA.out
            refine ⟨rfl,St.closeR (W:=(zeros W p j).set p (kind+16 * n)) ?_ (HR.out W HW.out) aok⟩
            have h6:=(h5.pick2.set p (.int .i64 (kind+16 * n))).back2
            rw [iA_set] at h6
            rw [alen,hl']
            exact h6
theorem made_zero (m:Nat):madeCells #[Value.int .i64 0] m=iA (List.replicate m 0):=by
  apply Array.ext_getElem?
  intro j
  rw [iA_get]
  unfold madeCells
  simp [List.getElem?_replicate,Array.getElem?_map,Array.getElem?_range]
  split <;> simp [Nat.mod_one]
set_option maxHeartbeats 1000000 in
theorem ra_New {n:Nat} (hn2:2≤n) (hn:n≤128) (h:St w0 F0 ps w) :
    Calls Tryz.prog 110 #[.int .i64 n] w fun e w'=>∃ b sb g,e=.returned (.tuple #[.pointer (some ⟨b,0,none⟩),.int .i64 0])∧St w0 F0 (RArenaP b sb g (aNew n)::ps) w':=by
  obtain ⟨i0,hi,hz0,hz1,hz2⟩:=info_parts info_iV
  obtain ⟨m,hm⟩:∃ m:Nat,32 * n=m:=⟨_,rfl⟩
  have hmi:(n:Int) * 32=(m:Int):=by omega
  have hmk:∀ W:World,(Instr.makeSlice 22 (.int .i64 (m:Int)) (.int .i64 (m:Int))).run Tryz.prog W=.ok (.slice (some ⟨W.heap.size,0,none⟩) m m) (W.alloc (.cells (iA (List.replicate m 0)) 3)):=by
    intro W
    have hr:=run_make (P:=Tryz.prog) W 22 3 i0 (.int .i64 0) Tryz.underlying22 hi hz0 .i64 .i64 m m (by omega) (by omega) (by rw [hz2]; omega) (by omega)
    rw [hz1] at hr
    simp only [Int.toNat_natCast,Nat.mul_one] at hr
    rw [hr,← made_zero]
    rfl
  have HM:=Lib.hid hm
  clear hm
  go_enter Tryz.func110,Tryz.ntmps110
  go_wp2_with fail
  refine (rs_New hn2 hn h).mono ?_
  rintro e w1 ⟨B,rfl,h1⟩
  go_wp2
  go_ret2
  refine ⟨_,B,w1.heap.size,rfl,?_⟩
  have h2:=h1.new (iA (List.replicate m 0)) 3
  have h3:=h2.new #[.pointer (some ⟨B,0,none⟩),.slice (some ⟨w1.heap.size,0,none⟩) m m] 156
  have hml:(aNew n).c.length=m:=by rw [← HM.out]; simp [aNew]
  have h4:=h3.swap1
  refine St.closeR (W:=List.replicate m 0) ?_ (RW.new n _ (by rw [List.length_replicate]; exact HM.out.symm)) (aNew_ok n)
  rw [hml]
  rw [show (aNew n).l=sNew n from rfl]
  simpa using h4
end
end Go.Proofs.YtaojmbkmicjecaaGreat
namespace Go.Proofs.YtaojmbkmicjecaaGreat
open Go.RowKit
set_option linter.unusedVariables false
set_option linter.unusedSimpArgs false
def appM (L L2:List Int):Option (List Int):=if L.length+L2.length<1000000 then some (L ++ L2) else none
theorem St.growM {w0:World} {F0:List Nat} {ps:List Piece} {wr w3:World} {v v':Value} {L L2:List Int} (h:St w0 F0 (RowP v L::ps) wr)
    (ho:w3.ownsRow 0 3 1 v' (L.length+L2.length) (iV L ++ iV L2)) (hg:wr.grownBy w3 v.ownBlock) (hat:v'.ownBlock=v.ownBlock ∨ v'.ownBlock=some wr.heap.size):St w0 F0 (RowP v' (L ++ L2)::ps) w3 :=
  h.step1 (by
    rintro F ⟨h1,rfl⟩
    refine ⟨v'.ownBlock.toList,⟨by simpa [iV] using ho,rfl⟩,(Keeps.refl _ _).grown hg (fun k hk=>.inl (by simp [hk])),?_⟩
    intro i hi
    simp at hi
    rcases hat with e | e
    · left; simp [← e,hi]
    · right; rw [e] at hi; injection hi with hi; omega)
theorem run_append_none {P:Program} {w:World} {t ty e:TypeId} {i:TypeInfo} (ht:P.underlying t=some (.slice e)) (hi:P.info? e=some i) {base:Option Addr} {n cap c:Nat} (hn:n≤cap) :
    (Builtin.append_ #[t,t] ty #[.slice base n cap,.slice none 0 c]).run P w=.ok (.slice base n cap) w:=by
  cases base with
  | none=>simp [Builtin.append_,run_underlying ht,sizeOf,typeInfo,hi,Builtin.lenOf,Builtin.firstCells,hn]
  | some a=>simp [Builtin.append_,run_underlying ht,sizeOf,typeInfo,hi,Builtin.lenOf,Builtin.firstCells,hn,storeCells]
section
variable {ops:Array Oper} {rest:List Oper} {o:Oper} {n:Nat} {a:Act} {l l':Asc} {w0:World} {F0:List Nat} {ps:List Piece} {w:World}
theorem app_core {K:Act→World→Prop} {Q:Exit→Act→World→Prop} (T:TypeId) (hT:Tryz.prog.underlying T=some (.slice 3)) {v:Value} {L L2 L3:List Int} {p:Option Addr} {c2:Nat} (d:Nat) (s x:Operand)
    (hF:Fr n a l) (hd:o.dst=some d) (hn:Nat.blt d n=true) (ho:o.op=.call { callee:=.builtin .append,args:=#[s,x],argTypes:=#[T,T] })
    (hs1:hasO l s=true) (hx1:hasO l x=true) (hs:lk l s=v) (hx:lk l x=.slice p L2.length c2)
    (h:St w0 F0 (RowP v L::RowP (.slice p L2.length c2) L2::ps) w) (hm:appM L L2=some L3)
    (hK:∀ v' w' a',St w0 F0 (RowP v' L3::RowP (.slice p L2.length c2) L2::ps) w'→Fr n a' ((d,v')::del d l)→K a' w'):Oper.wp Tryz.prog o a w K Q:=by
  unfold appM at hm
  split at hm
  · rename_i hlen
    injection hm with hm
    subst hm
    obtain ⟨i0,hi0,hz0,hz1,hz2⟩:=info_parts info_iV
    have hput:∀ v',Fr n (a.put o.dst v') ((d,v')::del d l):=fun v'=>by rw [hd]; exact hF.put (Nat.le_of_ble_eq_true hn) _
    cases p with
    | none =>
      obtain ⟨_,p',c',e,hp'⟩:=h.shape 1 rfl
      injection e with e1 e2 e3
      subst e1; subst e3
      have h0:L2.length=0:=hp'.resolve_right (by rintro ⟨g,e⟩; cases e)
      have e0:L2=[]:=List.eq_nil_of_length_eq_zero h0
      subst e0
      obtain ⟨_,pv,cv,ev,hpv⟩:=h.shape 0 rfl
      have hcap:L.length≤cv:=by
        have:=h.row 0 rfl
        rw [ev] at this
        rcases this.2 with ⟨e,h0⟩ | ⟨g',cap,cs,e,h2,h3,h4,h5,h6,h7⟩
        · rw [h0]; exact Nat.zero_le _
        · injection e with e1 e2 e3
          subst e3; exact h4
      unfold Oper.wp execOp
      have hr:=run_append_none (P:=Tryz.prog) (w:=w) (t:=T) (ty:=o.type) (e:=3) hT hi0 (base:=pv) (n:=L.length) (cap:=cv) (c:=c2) hcap
      simp only [ho,resolve,invoke,builtin,Sem.run_bind,Sem.run_pure,Result.andThen_ok,List.map_toArray,List.map_cons,List.map_nil,(hF.eval hs1).trans (hs.trans ev),(hF.eval hx1).trans hx]
      simp only [List.length_nil,hr,Result.andThen_ok]
      rw [← ev]
      exact hK v w _ (by simpa using h) (hput v)
    | some q =>
      obtain ⟨hl2,p',c',e,hp'⟩:=h.shape 1 rfl
      injection e with e1 e2 e3
      subst e1; subst e3
      have hq:∀ j u,(iV L2)[j]?=some u→w.cell? (q.add j)=some u:=by
        intro j u hj
        have hjl:j<L2.length:=by
          have:=(List.getElem?_eq_some_iff.1 hj).1
          simpa [iV] using this
        obtain ⟨g,e⟩:=hp'.resolve_left (fun e0=>by rw [e0] at hjl; exact absurd hjl (Nat.not_lt_zero _))
        obtain rfl:q=⟨g,0,none⟩:=Option.some.inj e
        have:=St.num h 1 rfl j hjl
        have e2:(⟨g,0,none⟩:Addr).add j=⟨g,j,none⟩:=by
          have:=add_at g 0 j
          simpa using this
        rw [e2,this]
        simp [iV,hjl] at hj
        rw [hj]
      obtain ⟨v',w',hr,h2,h3,h4,h5⟩:=run_append_own_at (P:=Tryz.prog) w 0 T o.type 3 i0 (.int .i64 0) 1 8 hT hi0 hz0 hz1 hz2 rfl (by decide) v L.length (iV L) (h.row 0 rfl) q L2.length c2 (iV L2) (by simp [iV]) hq (by intro u hu; simp [iV] at hu; obtain ⟨_,_,rfl⟩:=hu; rfl) (by unfold maxLen; omega) (by omega) (Nat.zero_le _)
      unfold Oper.wp execOp
      simp only [ho,resolve,invoke,builtin,Sem.run_bind,Sem.run_pure,Result.andThen_ok,List.map_toArray,List.map_cons,List.map_nil,(hF.eval hs1).trans hs,(hF.eval hx1).trans hx,hr]
      exact hK v' w' _ (h.growM h2 h3 h5) (hput v')
  · cases hm
theorem op_appM {Q:Exit→Act→World→Prop} {S:World→Prop} {listed:Array Bool} {fuel:Nat} (T:TypeId) (hT:Tryz.prog.underlying T=some (.slice 3)) (i:Nat) (ls:Array Bool) {v:Value} {L L2 L3:List Int} {p:Option Addr} {c2:Nat} (d:Nat) (s x:Operand)
    (hF:Fr n a l) (hi:ops[i]?=some o) (hd:o.dst=some d) (hn:Nat.blt d n=true) (hgd:gdO ops o l=some true) (ho:o.op=.call { callee:=.builtin .append,args:=#[s,x],argTypes:=#[T,T] })
    (hs1:hasO l s=true) (hx1:hasO l x=true) (hs:lk l s=v) (hx:lk l x=.slice p L2.length c2)
    (h:St w0 F0 (RowP v L::RowP (.slice p L2.length c2) L2::ps) w) (hm:appM L L2=some L3) (hl:listed.setIfInBounds i true=ls)
    (hK:∀ v' w' a',St w0 F0 (RowP v' L3::RowP (.slice p L2.length c2) L2::ps) w'→Fr n a' ((d,v')::del d l)→S w'∧wpAnyH Tryz.prog .any ops Q S fuel ls a' w') :
    wpOp Tryz.prog ops Q i (fun a' w'=>S w'∧wpAnyH Tryz.prog .any ops Q S fuel (listed.setIfInBounds i true) a' w') a w:=by
  subst hl
  unfold wpOp
  rw [hi]
  simp only
  rw [gdO_wanted hF hgd]
  simp only [if_true]
  left
  exact app_core T hT d s x hF hd hn ho hs1 hx1 hs hx h hm hK
end
theorem St.arrAt {w0 w:World} {F0:List Nat} {ps:List Piece} {g:Nat} {T:TypeId} {cs:Array Value} (h:St w0 F0 ps w) (k:Nat) (hk:ps[k]?=some (BlkP g T cs)) (off:Nat) (L:List Int) (he:(cs.toList.drop off).take (iV L).length=iV L) {i:Int} (hi:inR i L.length=true):w.cell? ⟨g,off+i.toNat,none⟩=some (.int .i64 (Go.Proofs.YtaojmbkmicjecaaGreat.atI L i)):=by
  obtain ⟨h0,h1⟩:=inR_spec hi
  have h2:=blk_cells h k hk he i.toNat (by simp [iV]; omega)
  rw [h2]
  unfold Go.Proofs.YtaojmbkmicjecaaGreat.atI
  rw [List.getD_eq_getElem?_getD,List.getElem?_eq_getElem (by omega)]
  simp [iV]
theorem wpOp_of_list {P:Program} {ops:Array Oper} {Q:Exit→Act→World→Prop} {K:Act→World→Prop} {a:Act} {w:World} {i:Nat} {o:Oper} (hi:ops[i]?=some o)
    (h:wpList P ops (fun e a w=>match e with | .normal=>K a w | e=>Q e a w) [o] a w):wpOp P ops Q i K a w:=by
  unfold wpOp
  rw [hi]
  simp only
  unfold wpList at h
  split
  · rename_i hw
    rw [if_pos hw] at h
    rcases h with h | ⟨h1,a2,w2,h2⟩
    · left
      unfold Oper.wp at h ⊢
      revert h
      cases (execOp a.eval o).run P w with
      | halt x w'=>cases x <;> exact fun h=>h
      | ok x w'=>cases x <;> exact fun h=>h
    · exact .inr ⟨h1,a2,w2,h2⟩
  · rename_i hw
    rw [if_neg hw] at h
    exact h
theorem op_colSet {ops:Array Oper} {o:Oper} {n:Nat} {a:Act} {l l':Asc} {Q:Exit→Act→World→Prop} {w0:World} {F0:List Nat} {ps:List Piece} {w:World} {mb:Nat} {f:Int→Int} {S:World→Prop} {listed:Array Bool} {fuel:Nat} (i:Nat) (ls:Array Bool) (m x v:Operand) (y z:Int) (hF:Fr n a l) (hS:St w0 F0 (ColP mb f::ps) w) (hi:ops[i]?=some o) (hg:o.guard=none) (hop:o.op=Op.mapUpdate 73 m x v)
    (hm1:hasO l m=true) (hx1:hasO l x=true) (hv1:hasO l v=true) (hm:lk l m=.map (some mb)) (hx:lk l x=.int .i64 y) (hv:lk l v=.int .i64 z) (hy:keyR y=true) (hz:wdR z=true) (hp:putO n o undef l=some l') (hl:listed.setIfInBounds i true=ls)
    (hK:∀ w' a',St w0 F0 (ColP mb (updM f y z)::ps) w'→Fr n a' l'→S w'∧wpAnyH Tryz.prog .any ops Q S fuel ls a' w'):wpOp Tryz.prog ops Q i (fun a' w'=>S w'∧wpAnyH Tryz.prog .any ops Q S fuel (listed.setIfInBounds i true) a' w') a w:=by
  subst hl
  refine wpOp_of_list hi (ev_colSet m x v y z hF hS hg hop hm1 hx1 hv1 hm hx hv hy hz hp fun w' a' h1 h2=>?_)
  exact hK w' a' h1 h2
end Go.Proofs.YtaojmbkmicjecaaGreat
namespace Go.Proofs.YtaojmbkmicjecaaGreat
open Go.RowKit
set_option linter.unusedVariables false
def help_In.l1b (L0:List Int) (i1:Int) (rec12:Int→Option (Bool)) (x9:Int):Option (Bool):=(if (decide (x9<(L0.length:Int))) then (if (inR x9 L0.length) then (if ((atI L0 x9) == i1) then some (true) else rec12 (IntKind.i64.wrap (x9+1))) else none) else some (false))
def help_In.l1 (L0:List Int) (i1:Int):Nat→Int→Option (Bool)
  | 0=>fun _=>none
  | kI+1=>help_In.l1b L0 i1 (help_In.l1 L0 i1 kI)
def help_In.m (k:Nat) (L0:List Int) (i1:Int):Option (Bool):=help_In.l1 L0 i1 k 0
set_option maxRecDepth 100000 in
set_option maxHeartbeats 1500000 in
theorem help_In.ok {w0 w:World} {F0:List Nat} {ps:List Piece} {k:Nat} {v0:Value} {L0:List Int} {i1:Int} {r0:Bool} (hS:St w0 F0 (RowP (v0) L0::ps) w) (hm:help_In.m k L0 i1=some r0) :
    Calls Tryz.prog 155 #[v0,nI i1] w fun e w'=>e=.returned (.bool r0)∧St w0 F0 (RowP (v0) L0::ps) w':=by
 refine ev_enterL 18 [v0,nI i1] Tryz.func155 rfl rfl (by simp) ?_
 intro a hF
 have hF0:Fr 18 a [(0,v0),(1,nI i1)]:=hF; clear hF
 unfold help_In.m at hm
 obtain ⟨hl4,p1,c2,rfl,hp3⟩:=St.shape hS 0 rfl
 refine wp_seq (wp_region_lit ?_)
 refine ev_runK 1 hF0 [0,1] (l':=[(0,.slice p1 L0.length c2),(1,nI i1)]) (w':=w) (by kernel_rfl) ?_
 intro a6 hF5; clear hF0
 refine wpList_nil (thenN (wp_seq (wp_seq (wp_region_lit ?_))))
 refine ev_runs 1 hF5 (l':=[(5,nI 0),(0,.slice p1 L0.length c2),(1,nI i1)]) (w':=w) (by kernel_rfl) ?_
 intro a8 hF7; clear hF5
 refine wpList_nil (thenN ?_)
 refine wp_block ?_
 refine wp_loop_ghost (fun kI aI wI=>∃ (x9:Int),Fr 18 aI [(5,nI x9),(0,.slice p1 L0.length c2),(1,nI i1)]∧St w0 F0 (RowP (.slice p1 L0.length c2) L0::ps) wI∧help_In.l1 L0 i1 kI x9=some r0) k ⟨0,hF7,hS,hm⟩ ?_
 rintro k10 a11 w12 ⟨x9,hF13,hS14,hm15⟩
 clear hF7 hS hm
 rcases k10 with _ | k10
 · cases hm15
 have hm16:help_In.l1b L0 i1 (help_In.l1 L0 i1 k10) x9=some r0:=hm15
 clear hm15
 unfold help_In.l1b at hm16
 refine wp_seq (wp_seq (wp_region_lit ?_))
 refine ev_runK 4 hF13 [0,1,5,9] (l':=[(9,.bool (decide (x9<(L0.length:Int)))),(5,nI x9),(0,.slice p1 L0.length c2),(1,nI i1)]) (w':=w12) (by kernel_rfl) ?_
 intro a18 hF17; clear hF13
 refine wpList_nil (thenN ?_)
 cases hc19:(decide (x9<(L0.length:Int)))
 case true =>
  rw [hc19] at hF17
  have hm20:=ifYes hc19 hm16; clear hm16
  refine ev_condT hF17 rfl rfl ?_
  refine wp_skip ?_
  have hF21:=hF17.keep [0,1,5]
  clear hF17
  refine thenN (wp_seq ?_)
  refine wp_block ?_
  refine wp_seq (wp_region_lit ?_)
  refine ev_runs 2 hF21 (l':=[(13,nI x9),(12,.slice p1 L0.length c2),(5,nI x9),(0,.slice p1 L0.length c2),(1,nI i1)]) (w':=w12) (by kernel_rfl) ?_
  intro a23 hF22; clear hF21
  obtain ⟨hc24,hm25⟩:=ifTE hm20; clear hm20
  obtain ⟨g26,rfl⟩:=hp3.resolve_left (by have:=inR_spec hc24; omega)
  refine ev_one (nP g26 (x9.toNat)) w12 hF22 (by kernel_rfl) rfl (by kernel_rfl) (run_idx rfl rfl rfl rfl rfl (inR_spec hc24).1 (inR_spec hc24).2 _) (l':=[(14,nP g26 (x9.toNat)),(13,nI x9),(12,nS g26 L0 c2),(5,nI x9),(0,nS g26 L0 c2),(1,nI i1)]) (by kernel_rfl) ?_
  intro a28 hF27; clear hF22
  refine ev_one (nI (atI L0 x9)) w12 hF27 (by kernel_rfl) rfl (by kernel_rfl) (run_load1 rfl rfl rfl (hS14.atI 0 rfl hc24)) (l':=[(15,nI (atI L0 x9)),(14,nP g26 (x9.toNat)),(13,nI x9),(12,nS g26 L0 c2),(5,nI x9),(0,nS g26 L0 c2),(1,nI i1)]) (by kernel_rfl) ?_
  intro a30 hF29; clear hF27
  refine ev_runK 2 hF29 [0,1,5,17] (l':=[(17,.bool ((atI L0 x9) == i1)),(5,nI x9),(0,nS g26 L0 c2),(1,nI i1)]) (w':=w12) (by kernel_rfl) ?_
  intro a32 hF31; clear hF29
  refine wpList_nil (thenN ?_)
  cases hc33:((atI L0 x9) == i1)
  case true =>
   rw [hc33] at hF31
   have hm34:=ifYes hc33 hm25; clear hm25
   refine ev_condT hF31 rfl rfl ?_
   refine wp_seq (wp_region_lit ?_)
   refine ev_runK 1 hF31 [4] (l':=[(4,.bool true)]) (w':=w12) (by kernel_rfl) ?_
   intro a36 hF35; clear hF31
   refine wpList_nil (thenN ?_)
   refine wp_ret ?_
   refine blockR ?_
   refine thenR (thenR ?_)
   refine blockR ?_
   refine thenR ?_
   obtain rfl:=Option.some.inj hm34
   refine ev_ret hF35 [4] (.bool true) rfl rfl rfl ?_
   exact ⟨rfl,hS14⟩
  rw [hc33] at hF31
  have hm38:=ifNot hc33 hm25; clear hm25
  refine ev_condF hF31 rfl rfl ?_
  refine wp_skip ?_
  have hF39:=hF31.keep [0,1,5]
  clear hF31
  refine blockN ?_
  refine thenN (wp_region_lit ?_)
  refine ev_runK 3 hF39 [0,1,5] (l':=[(5,nI (IntKind.i64.wrap (x9+1))),(0,nS g26 L0 c2),(1,nI i1)]) (w':=w12) (by kernel_rfl) ?_
  intro a41 hF40; clear hF39
  refine wpList_nil ?_
  exact thenN ⟨k10,Nat.lt_succ_self _,IntKind.i64.wrap (x9+1),hF40,hS14,hm38⟩
 rw [hc19] at hF17
 have hm42:=ifNot hc19 hm16; clear hm16
 refine ev_condF hF17 rfl rfl ?_
 refine wp_exit ?_
 refine thenE ?_
 refine thenE ?_
 refine blockE ?_
 refine thenN (wp_seq (wp_region_lit ?_))
 refine ev_runK 1 hF17 [4] (l':=[(4,.bool false)]) (w':=w12) (by kernel_rfl) ?_
 intro a44 hF43; clear hF17
 refine wpList_nil (thenN ?_)
 refine wp_ret ?_
 obtain rfl:=Option.some.inj hm42
 refine ev_ret hF43 [4] (.bool false) rfl rfl rfl ?_
 exact ⟨rfl,hS14⟩
end Go.Proofs.YtaojmbkmicjecaaGreat
