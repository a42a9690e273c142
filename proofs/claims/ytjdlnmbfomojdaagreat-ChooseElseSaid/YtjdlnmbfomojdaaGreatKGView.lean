/- GView GMouth -/
import Derived.Test.YtjdlnmbfomojdaaGreatKPrimV
import Derived.Test.YtjdlnmbfomojdaaGreatKGHelp
import Derived.Deep.LoopGhost
import Derived.KernelRfl
namespace Go.Proofs.YtjdlnmbfomojdaaGreat
open Go.RowKit
set_option linter.unusedVariables false
end Go.Proofs.YtjdlnmbfomojdaaGreat
namespace Go.Proofs.YtjdlnmbfomojdaaGreat
open Go.RowKit
set_option linter.unusedVariables false
def mouth_Of.m (k:Nat) (s0:HSt) (i1:Int):Option (Option (Unit ⊕ Int)×HSt):=(if (i1 == (wrap64 (2 * 0))) then some ((some (.inl ())),s0) else bind1 (pAt i1) fun x24=>bind2 (pChan x24 s0) fun q35 x36=>(if (x36 != 0) then some (none,s0) else some ((some (.inr x24)),s0)))
set_option maxRecDepth 100000 in
set_option maxHeartbeats 1500000 in
theorem mouth_Of.ok {w0 w:World} {F0:List Nat} {ps:List Piece} {k:Nat} {b0 ab0:Nat} {s0:HSt} {i1:Int} {r0:Option (Unit ⊕ Int)} {t0:HSt} (hS:St w0 F0 (HeapP b0 ab0 s0::ps) w) (hm:mouth_Of.m k s0 i1=some (r0,t0)) :
    Calls Tryz.prog 49 #[nP b0 0,nI i1] w fun e w'=>e=.returned (oMoV 112 114 r0)∧St w0 F0 (HeapP b0 ab0 t0::ps) w':=by
 refine ev_enterL 27 [nP b0 0,nI i1] Tryz.func49 rfl rfl (by simp) ?_
 intro a hF
 have hF0:Fr 27 a [(0,nP b0 0),(1,nI i1)]:=hF; clear hF
 unfold mouth_Of.m at hm
 refine wp_seq (wp_region_lit ?_)
 refine ev_runK 1 hF0 [0,1] (l':=[(0,nP b0 0),(1,nI i1)]) (w':=w) (by kernel_rfl) ?_
 intro a2 hF1; clear hF0
 refine wpList_nil (thenN (wp_seq (wp_seq (wp_region_lit ?_))))
 refine ev_runK 2 hF1 [0,1,9] (l':=[(9,.bool false),(0,nP b0 0),(1,nI i1)]) (w':=w) (by kernel_rfl) ?_
 intro a4 hF3; clear hF1
 refine wpList_nil (thenN ?_)
 refine ev_condF hF3 rfl rfl ?_
 refine wp_skip ?_
 have hF5:=hF3.keep [0,1]
 clear hF3
 refine thenN (wp_seq (wp_seq (wp_region_lit ?_)))
 refine ev_runs 1 hF5 (l':=[(10,nI i1),(0,nP b0 0),(1,nI i1)]) (w':=w) (by kernel_rfl) ?_
 intro a7 hF6; clear hF5
 refine ev_call 29 #[nI 0] hF6 rfl rfl (by kernel_rfl) rfl (by kernel_rfl) (fun w=>by kernel_rfl) ?_
 refine (p_vInt hS).mono ?_
 rintro _ w8 ⟨rfl,hS10⟩ a9 hF11; clear hF6 hS
 refine ev_runK 1 hF11 [0,1,12] (l':=[(12,.bool (i1 == (wrap64 (2 * 0)))),(0,nP b0 0),(1,nI i1)]) (w':=w8) (by kernel_rfl) ?_
 intro a13 hF12; clear hF11
 refine wpList_nil (thenN ?_)
 cases hc14:(i1 == (wrap64 (2 * 0)))
 case true =>
  rw [hc14] at hF12
  have hm15:=ifYes hc14 hm; clear hm
  refine ev_condT hF12 rfl rfl ?_
  refine wp_seq (wp_region_lit ?_)
  refine ev_runK 3 hF12 [4] (l':=[(4,.iface 112 (.agg #[]))]) (w':=w8) (by kernel_rfl) ?_
  intro a17 hF16; clear hF12
  refine wpList_nil (thenN ?_)
  refine wp_ret ?_
  refine thenR ?_
  simp only [Option.some.injEq,Prod.mk.injEq] at hm15
  obtain ⟨rfl,rfl⟩:=hm15
  refine ev_ret hF16 [4] (.iface 112 (.agg #[])) rfl rfl rfl ?_
  exact ⟨rfl,hS10⟩
 rw [hc14] at hF12
 have hm20:=ifNot hc14 hm; clear hm
 refine ev_condF hF12 rfl rfl ?_
 refine wp_skip ?_
 have hF21:=hF12.keep [0,1]
 clear hF12
 refine thenN (wp_seq (wp_region_lit ?_))
 refine ev_runs 1 hF21 (l':=[(15,nI i1),(0,nP b0 0),(1,nI i1)]) (w':=w8) (by kernel_rfl) ?_
 intro a23 hF22; clear hF21
 refine ev_call 64 #[nI i1] hF22 rfl rfl (by kernel_rfl) rfl (by kernel_rfl) (fun w=>by kernel_rfl) ?_
 obtain ⟨x24,hx25,hm26⟩:=bind1E hm20; clear hm20
 refine (p_vAt hS10 hx25).mono ?_
 rintro _ w27 ⟨rfl,hS29⟩ a28 hF30; clear hF22 hS10
 refine ev_runK 1 hF30 [0,5] (l':=[(5,nI x24),(0,nP b0 0)]) (w':=w27) (by kernel_rfl) ?_
 intro a32 hF31; clear hF30
 refine wpList_nil (thenN (wp_seq (wp_seq (wp_region_lit ?_))))
 refine ev_runs 2 hF31 (l':=[(19,nI x24),(18,nP b0 0),(5,nI x24),(0,nP b0 0)]) (w':=w27) (by kernel_rfl) ?_
 intro a34 hF33; clear hF31
 refine ev_call 50 #[nP b0 0,nI x24] hF33 rfl rfl (by kernel_rfl) rfl (by kernel_rfl) (fun w=>by kernel_rfl) ?_
 obtain ⟨q35,x36,hx37,hm38⟩:=bind2E hm26; clear hm26
 refine (p_Chan hS29 hx37).mono ?_
 rintro _ w39 ⟨rfl,hS41⟩ a40 hF42; clear hF33 hS29
 refine ev_runs 4 hF42 (l':=[(6,nB w39),(22,nI x36),(21,.agg #[nI (q35.cap),nI (q35.closed),nI (q35.count),nI (q35.start),nI (q35.buf),nI (q35.th),nI (q35.tt),nI (q35.sh),nI (q35.st)]),(17,.tuple #[.agg #[nI (q35.cap),nI (q35.closed),nI (q35.count),nI (q35.start),nI (q35.buf),nI (q35.th),nI (q35.tt),nI (q35.sh),nI (q35.st)],nI x36]),(20,.tuple #[.agg #[nI (q35.cap),nI (q35.closed),nI (q35.count),nI (q35.start),nI (q35.buf),nI (q35.th),nI (q35.tt),nI (q35.sh),nI (q35.st)],nI x36]),(19,nI x24),(18,nP b0 0),(5,nI x24),(0,nP b0 0)]) (w':=w39.alloc (.cells #[nI 0,nI 0,nI 0,nI 0,nI 0,nI 0,nI 0,nI 0,nI 0] 49)) (by kernel_rfl) ?_
 intro a44 hF43; clear hF42
 have hS46:St w0 F0 (BlkP (w39.heap.size) 49 #[nI 0,nI 0,nI 0,nI 0,nI 0,nI 0,nI 0,nI 0,nI 0]::HeapP b0 ab0 s0::ps) (w39.alloc (.cells #[nI 0,nI 0,nI 0,nI 0,nI 0,nI 0,nI 0,nI 0,nI 0] 49)):=St.new hS41 #[nI 0,nI 0,nI 0,nI 0,nI 0,nI 0,nI 0,nI 0,nI 0] 49
 clear hS41
 refine ev_store (.agg #[nI (q35.cap),nI (q35.closed),nI (q35.count),nI (q35.start),nI (q35.buf),nI (q35.th),nI (q35.tt),nI (q35.sh),nI (q35.st)]) #[nI (q35.cap),nI (q35.closed),nI (q35.count),nI (q35.start),nI (q35.buf),nI (q35.th),nI (q35.tt),nI (q35.sh),nI (q35.st)] hF43 (by kernel_rfl) rfl rfl rfl rfl (by kernel_rfl) hS46 (by kernel_rfl) (by kernel_rfl) (by kernel_rfl) (l':=[(6,nB w39),(22,nI x36),(21,.agg #[nI (q35.cap),nI (q35.closed),nI (q35.count),nI (q35.start),nI (q35.buf),nI (q35.th),nI (q35.tt),nI (q35.sh),nI (q35.st)]),(17,.tuple #[.agg #[nI (q35.cap),nI (q35.closed),nI (q35.count),nI (q35.start),nI (q35.buf),nI (q35.th),nI (q35.tt),nI (q35.sh),nI (q35.st)],nI x36]),(20,.tuple #[.agg #[nI (q35.cap),nI (q35.closed),nI (q35.count),nI (q35.start),nI (q35.buf),nI (q35.th),nI (q35.tt),nI (q35.sh),nI (q35.st)],nI x36]),(19,nI x24),(18,nP b0 0),(5,nI x24),(0,nP b0 0)]) (by kernel_rfl) ?_
 intro w47 a48 hS49 hF50; clear hF43 hS46
 refine ev_runK 1 hF50 [5,7] (l':=[(7,nI x36),(5,nI x24)]) (w':=w47) (by kernel_rfl) ?_
 intro a52 hF51; clear hF50
 refine wpList_nil ?_
 have hS53:=hS49.drop
 clear hS49
 refine thenN (wp_seq (wp_region_lit ?_))
 refine ev_runK 2 hF51 [5,24] (l':=[(24,.bool (x36 != 0)),(5,nI x24)]) (w':=w47) (by kernel_rfl) ?_
 intro a55 hF54; clear hF51
 refine wpList_nil (thenN ?_)
 cases hc56:(x36 != 0)
 case true =>
  rw [hc56] at hF54
  have hm57:=ifYes hc56 hm38; clear hm38
  refine ev_condT hF54 rfl rfl ?_
  refine wp_seq (wp_region_lit ?_)
  refine ev_runK 1 hF54 [4] (l':=[(4,.nilIface)]) (w':=w47) (by kernel_rfl) ?_
  intro a59 hF58; clear hF54
  refine wpList_nil (thenN ?_)
  refine wp_ret ?_
  refine thenR ?_
  simp only [Option.some.injEq,Prod.mk.injEq] at hm57
  obtain ⟨rfl,rfl⟩:=hm57
  refine ev_ret hF58 [4] (.nilIface) rfl rfl rfl ?_
  exact ⟨rfl,hS53⟩
 rw [hc56] at hF54
 have hm62:=ifNot hc56 hm38; clear hm38
 refine ev_condF hF54 rfl rfl ?_
 refine wp_skip ?_
 have hF63:=hF54.keep [5]
 clear hF54
 refine thenN (wp_seq (wp_region_lit ?_))
 refine ev_runK 3 hF63 [4] (l':=[(4,.iface 114 (nI x24))]) (w':=w47) (by kernel_rfl) ?_
 intro a65 hF64; clear hF63
 refine wpList_nil (thenN ?_)
 refine wp_ret ?_
 simp only [Option.some.injEq,Prod.mk.injEq] at hm62
 obtain ⟨rfl,rfl⟩:=hm62
 refine ev_ret hF64 [4] (.iface 114 (nI x24)) rfl rfl rfl ?_
 exact ⟨rfl,hS53⟩
def mouth_OfN.m (k:Nat) (i1:Int):Option (Option (Unit ⊕ Int)):=some (none)
set_option maxRecDepth 100000 in
set_option maxHeartbeats 1500000 in
theorem mouth_OfN.ok {w0 w:World} {F0:List Nat} {ps:List Piece} {k:Nat} {i1:Int} {r0:Option (Unit ⊕ Int)} (hS:St w0 F0 (ps) w) (hm:mouth_OfN.m k i1=some r0) :
    Calls Tryz.prog 49 #[.pointer none,nI i1] w fun e w'=>e=.returned (oMoV 112 114 r0)∧St w0 F0 (ps) w':=by
 refine ev_enterL 27 [.pointer none,nI i1] Tryz.func49 rfl rfl (by simp) ?_
 intro a hF
 have hF0:Fr 27 a [(0,.pointer none),(1,nI i1)]:=hF; clear hF
 unfold mouth_OfN.m at hm
 refine wp_seq (wp_region_lit ?_)
 refine ev_runK 1 hF0 [0,1] (l':=[(0,.pointer none),(1,nI i1)]) (w':=w) (by kernel_rfl) ?_
 intro a2 hF1; clear hF0
 refine wpList_nil (thenN (wp_seq (wp_seq (wp_region_lit ?_))))
 refine ev_runK 2 hF1 [0,1,9] (l':=[(9,.bool true),(0,.pointer none),(1,nI i1)]) (w':=w) (by kernel_rfl) ?_
 intro a4 hF3; clear hF1
 refine wpList_nil (thenN ?_)
 refine ev_condT hF3 rfl rfl ?_
 refine wp_seq (wp_region_lit ?_)
 refine ev_runK 1 hF3 [4] (l':=[(4,.nilIface)]) (w':=w) (by kernel_rfl) ?_
 intro a6 hF5; clear hF3
 refine wpList_nil (thenN ?_)
 refine wp_ret ?_
 refine thenR ?_
 obtain rfl:=Option.some.inj hm
 refine ev_ret hF5 [4] (.nilIface) rfl rfl rfl ?_
 exact ⟨rfl,hS⟩
set_option maxRecDepth 100000 in
set_option maxHeartbeats 1500000 in
theorem mouth_OfN.okc {w0 w:World} {F0:List Nat} {ps:List Piece} {i1:Int}  (hS:St w0 F0 (ps) w) :
    Calls Tryz.prog 49 #[.pointer none,nI i1] w fun e w'=>e=.returned (.nilIface)∧St w0 F0 (ps) w' :=
 mouth_OfN.ok (k:=0) hS rfl
end Go.Proofs.YtjdlnmbfomojdaaGreat
