/- Record Record2 -/
import Derived.Test.YtffnjpapggidlaaKRowOf
import Derived.Test.YtffnjpapggidlaaKPure10
import Derived.Lib.OthersKept
import Derived.Lib.AppendStr
import Derived.WalkSmall
namespace Go.Proofs.Ytffnjpapggidlaa
open Go.RowKit
theorem kind_cases (k:Int):k=1 ∨ k=3 ∨ k=4 ∨ k=5 ∨ k=6 ∨ ¬ (k=1 ∨ (3≤k∧k≤6)):=by omega
theorem rec_names (k:Int) (w:World) :
    Calls Try.prog 111 #[.int .i64 k] w fun e w'=>e=.returned (.string (rText k))∧w=w':=by
  obtain rfl | rfl | rfl | rfl | rfl | h:=kind_cases k
  all_goals try (
    go_enter Try.func111,Try.ntmps111
    go_wp2
    go_ret
    exact ⟨rfl,rfl⟩)
  rw [rText_none h]
  have h1:(k == 1)=false:=by rw [beq_eq_false_iff_ne]; omega
  have h3:(k == 3)=false:=by rw [beq_eq_false_iff_ne]; omega
  have h4:(k == 4)=false:=by rw [beq_eq_false_iff_ne]; omega
  have h5:(k == 5)=false:=by rw [beq_eq_false_iff_ne]; omega
  have h6:(k == 6)=false:=by rw [beq_eq_false_iff_ne]; omega
  clear h
  go_enter Try.func111,Try.ntmps111
  go_wp2
  go_ret
  exact ⟨rfl,rfl⟩
theorem iter_belowR (w:World) (s:ByteArray) (p:Nat):Below w.heap.size w (w.iter s p):=(Below.refl _ _).alloc (Nat.le_refl _) _
theorem own_mono {w:World} {B B' e n:Nat} {v:Value} {xs:List Value} (h:w.ownsRow B e 1 v n xs) (hB:B'≤B):w.ownsRow B' e 1 v n xs :=
  ⟨h.1,h.2.imp id fun ⟨g,cap,cur,a,b,c⟩=>⟨g,cap,cur,a,Nat.le_trans hB b,c⟩⟩
theorem conv_runeR (c:Nat) (h:c<128) (w:World):(convert 21 9 (.int .i32 c)).run Try.prog w=.ok (.string (bs [UInt8.ofNat c])) w:=by
  rw [run_convert_int_string w _ _ _ _ (by kernel_rfl) Try.underlying9]
  have hv:Utf8.valid (c:Int)=true:=by unfold Utf8.valid; simp; omega
  simp only [Utf8.encode,hv,if_true,Int.toNat_natCast,h]
  rfl
theorem info_str:(Try.prog.info? 9).map (fun i=>(i.zero,i.size,i.bytes))=some (some (.string ⟨#[]⟩),1,16):=by kernel_rfl
def GivesStrs (l:List ByteArray) (w:World) (e:Ending) (w':World):Prop :=
  ∃ v,e=.returned v∧Below w.heap.size w w'∧w'.ownsRow w.heap.size 9 1 v l.length (l.map .string)
set_option maxRecDepth 100000 in
set_option maxHeartbeats 1000000 in
theorem rec_fields_walk (k:Int) (s:ByteArray) (hs:rText k=s) (ha:∀ i (h:i<s.size),(s[i]'h).toNat<128) (hz:s.size≤1000) (w:World) :
    Calls Try.prog 103 #[.int .i64 k] w (GivesStrs ((parts s.data.toList).map bs) w):=by
  have hn:=rec_names k w
  rw [hs] at hn
  obtain ⟨i0,hi,hz0,hz1,hz2⟩:=info_parts info_str
  have HN:=Lib.hid hn
  have HA:=Lib.hid ha
  clear hn hs ha
  go_enter Try.func103,Try.ntmps103
  go_wp2_with (go_at_call 111; refine HN.out.mono ?_; rintro e w' ⟨rfl,rfl⟩)
  go_loopw [3,4] (fun v nm wr=>∃ pos:Nat,pos≤s.size∧wr.heap[w.heap.size]?=some (.stringIter s pos)∧Below w.heap.size w wr∧w.heap.size+1≤wr.heap.size∧nm=.string (bs (spl (s.data.toList.take pos)).2)∧wr.ownsRow (w.heap.size+1) 9 1 v (spl (s.data.toList.take pos)).1.length (((spl (s.data.toList.take pos)).1.map bs).map .string)) (fun _ _ wr=>s.size - wr.iterPos w.heap.size)
  case atStart=>exact ⟨0,by omega,World.iter_heap _ _ _,iter_belowR _ _ _,by simp [World.iter],rfl,World.ownsRow_nil _ _ _ _⟩
  case round =>
    obtain ⟨pos,hp,hk,hb,hsz,rfl,hown⟩:=hrel
    have hl:=spl_len (s.data.toList.take pos)
    have hl2:(s.data.toList.take pos).length≤pos:=by simp; omega
    have hn2:=spl_len2 (s.data.toList.take pos)
    generalize hspl:spl (s.data.toList.take pos)=sp at *
    obtain ⟨l,nm⟩:=sp
    by_cases hlt:pos<s.size
    · obtain ⟨c,w1,hc,hcb,hnx,hk1,hb1,hs1,hown1⟩:∃ (c:Nat) (w1:World),c<128∧Hid ((s[pos]'hlt).toNat=c)∧(∀ ty,(Instr.next (.pointer (some ⟨w.heap.size,0,none⟩)) true ty).run Try.prog wr=.ok (.tuple #[.bool true,.int .i64 pos,.int .i32 c]) w1) ∧
          w1.heap[w.heap.size]?=some (.stringIter s (pos+1))∧Below w.heap.size w w1∧w.heap.size+1≤w1.heap.size∧w1.ownsRow (w.heap.size+1) 9 1 u3 l.length ((l.map bs).map .string) :=
        ⟨_,wr.iterAt w.heap.size s (pos+1),HA.out pos hlt,rfl,fun ty=>Lib.run_next_ascii_at (P:=Try.prog) wr w.heap.size s pos ty hk hlt (HA.out pos hlt),Lib.iterAt_heap _ _ _ _ _ hk,Lib.below_iterAt hb (Nat.le_refl _) _ _,by rw [Lib.iterAt_size]; exact hsz,ownsRow_iterAt hown (by omega) _ _⟩
      have HS:=Lib.hid hspl
      have HK:=Lib.hid hk1
      have HK0:=Lib.hid hk
      have hnm:(bs nm).size+(bs [UInt8.ofNat c]).size≤2000:=by
        have e1:(bs nm).size=nm.length:=by simp [bs,ByteArray.size]
        have e2:(bs [UInt8.ofNat c]).size=1:=rfl
        have e3:nm.length≤(List.take pos s.data.toList).length:=hn2
        omega
      have hll:l.length≤1000:=by have e3:l.length≤(List.take pos s.data.toList).length:=hl; omega
      have ht:spl (s.data.toList.take (pos+1))=spStep (l,nm) (UInt8.ofNat c):=by
        rw [take_snoc s pos hlt,spl_snoc,hspl,← hcb.out]; simp
      have HT:=Lib.hid ht
      clear hspl hl2 hk hb hsz hown hk1 hn2 hl ht
      by_cases h32:c=32
      · have e32:((c:Int) == 32)=true:=by rw [h32]; decide
        have H32:=Lib.hid h32
        clear h32
        go_wp2_with (at_builtin; refine wpList_append_own _ rfl _ _ 114 rfl (w.heap.size+1) 9 i0 (.string ⟨#[]⟩) 1 16 Try.underlying114 hi hz0 hz1 hz2 rfl (by decide) _ _ _ rfl (hown1.alloc _) ⟨w1.heap.size,0,none⟩ 1 1 [.string (bs nm)] rfl rfl (cell_one_new _ _ _) ?c2 ?c3 ?c4 ?c5 ?_)
        case c2=>first | rfl | (intro u hu; simp at hu; subst hu; rfl)
        case c3=>unfold maxLen; omega
        case c4=>omega
        case c5=>first | omega | (simp; omega)
        intro v' w2 hown2 hg2 _
        have hb2:Below w1.heap.size w1 (w1.alloc (.cells #[.string (bs nm)] 9)):=(Below.refl _ _).alloc (Nat.le_refl _) _
        have hown0:=hown1.2
        have hb3:Below (w.heap.size+1) w1 w2:=(hb2.mono hs1).grown hg2 (by simp; omega) (by
          intro k hk
          rcases hown0 with ⟨rfl,_⟩ | ⟨g,cap,cur,rfl,hB,_⟩
          · cases hk
          · cases hk; exact hB)
        clear hown0
        go_wp2
        go_roundw
        case rel =>
          refine ⟨pos+1,by omega,?_,hb1.trans (hb3.mono (by omega)),by have:=hb3.size; omega,?_,?_⟩
          · rw [hb3.block _ (by omega)]; exact HK.out
          · rw [HT.out,H32.out]; rfl
          · rw [HT.out,H32.out]; simpa [spStep] using hown2
        case measure =>
          rw [iterPos_of HK0.out,iterPos_of (show w2.heap[w.heap.size]?=some (.stringIter s (pos+1)) by rw [hb3.block _ (by omega)]; exact HK.out)]; omega
      · have e32:((c:Int) == 32)=false:=by rw [beq_eq_false_iff_ne]; omega
        have hcv:=conv_runeR c hc
        have H32:=Lib.hid h32
        clear h32
        go_wp2
        go_roundw
        case rel =>
          have e:(UInt8.ofNat c=32)=False:=by
            simp only [eq_iff_iff,iff_false]
            intro e
            have:=congrArg UInt8.toNat e
            rw [UInt8.toNat_ofNat_of_lt' (by simp [UInt8.size]; omega)] at this
            exact H32.out this
          refine ⟨pos+1,by omega,HK.out,hb1,hs1,?_,?_⟩
          · rw [HT.out]; simp only [spStep,e,if_false]; congr 1
          · rw [HT.out]; simpa only [spStep,e,if_false] using hown1
        case measure =>
          rw [iterPos_of HK0.out,iterPos_of HK.out]; omega
    · have hps:pos=s.size:=by omega
      have hfull:spl s.data.toList=(l,nm):=by
        rw [← hspl,hps,take_allB]
      have HF:=Lib.hid hfull
      have hll:l.length≤1000:=by have e3:l.length≤(List.take pos s.data.toList).length:=hl; omega
      have hnx:=fun ty=>Lib.run_next_end_at (P:=Try.prog) wr w.heap.size s pos ty hk hlt
      clear hspl hfull hps hl hl2 hn2
      by_cases hnm:nm=[]
      · have he:(bs nm).toList.isEmpty=true:=by rw [hnm]; exact bs_nil
        have HN2:=Lib.hid hnm
        clear hnm hk
        go_wp2
        go_ret
        have hp:parts s.data.toList=[]:=by unfold parts; rw [HF.out,HN2.out]; rfl
        rw [hp]
        exact ⟨_,rfl,hb,World.ownsRow_nil _ _ _ _⟩
      · have he:(bs nm).toList.isEmpty=false:=bs_cons hnm
        have HN2:=Lib.hid hnm
        clear hnm hk
        go_wp2_with (at_builtin; refine wpList_append_own _ rfl _ _ 114 rfl (w.heap.size+1) 9 i0 (.string ⟨#[]⟩) 1 16 Try.underlying114 hi hz0 hz1 hz2 rfl (by decide) _ _ _ rfl (hown.alloc _) ⟨wr.heap.size,0,none⟩ 1 1 [.string (bs nm)] rfl rfl (cell_one_new _ _ _) ?c2 ?c3 ?c4 ?c5 ?_)
        case c2=>first | rfl | (intro u hu; simp at hu; subst hu; rfl)
        case c3=>unfold maxLen; omega
        case c4=>omega
        case c5=>first | omega | (simp; omega)
        intro v' w2 hown2 hg2 _
        have hb2:Below wr.heap.size wr (wr.alloc (.cells #[.string (bs nm)] 9)):=(Below.refl _ _).alloc (Nat.le_refl _) _
        have hown0:=hown.2
        have hb3:Below (w.heap.size+1) wr w2:=(hb2.mono hsz).grown hg2 (by simp; omega) (by
          intro k hk
          rcases hown0 with ⟨rfl,_⟩ | ⟨g,cap,cur,rfl,hB,_⟩
          · cases hk
          · cases hk; exact hB)
        clear hown0
        go_wp2
        go_ret
        have hp:parts s.data.toList=l ++ [nm]:=by unfold parts; rw [HF.out,if_neg HN2.out]
        rw [hp]
        refine ⟨_,rfl,hb.trans (hb3.mono (by omega)),?_⟩
        have h3:=own_mono hown2 (show w.heap.size≤w.heap.size+1 by omega)
        simpa using h3
theorem rec_fields (k:Int) (w:World) :
    Calls Try.prog 103 #[.int .i64 k] w (GivesStrs (rNames k) w):=by
  have main:∀ s:ByteArray,rText k=s→(∀ i (h:i<s.size),(s[i]'h).toNat<128)→s.size≤1000→Calls Try.prog 103 #[.int .i64 k] w (GivesStrs (rNames k) w):=by
    intro s h1 h2 h3
    have:=rec_fields_walk k s h1 h2 h3 w
    unfold rNames
    rw [h1]
    exact this
  obtain rfl | rfl | rfl | rfl | rfl | h:=kind_cases k
  · exact main tChan rfl (by decide) (by decide)
  · exact main tSudog rfl (by decide) (by decide)
  · exact main tGor rfl (by decide) (by decide)
  · exact main tBox rfl (by decide) (by decide)
  · exact main tTimer rfl (by decide) (by decide)
  · exact main tNone (rText_none h) (by decide) (by decide)
end Go.Proofs.Ytffnjpapggidlaa
namespace Go.Proofs.Ytffnjpapggidlaa
open Go.RowKit
theorem names_len (k:Int):((rNames k).length:Int)=if k=1 then 9 else if k=3 then 7 else if k=4 then 10 else if k=5 then 2 else if k=6 then 2 else 0:=by
  obtain rfl | rfl | rfl | rfl | rfl | h:=kind_cases k
  · decide +kernel
  · decide +kernel
  · decide +kernel
  · decide +kernel
  · decide +kernel
  · have:rNames k=[]:=by unfold rNames; rw [rText_none h]; rfl
    rw [this]; repeat (rw [if_neg (by omega)])
    rfl
theorem need_eq (k n:Int) (h:k≠2):rNeed k n=(rNames k).length∧rKnown k n=decide (0<(rNames k).length):=by
  have e:decide (0<(rNames k).length)=decide (0<((rNames k).length:Int)):=by rw [decide_eq_decide]; omega
  rw [e,names_len]
  unfold rNeed rKnown
  rw [if_neg h,if_neg h]
  refine ⟨rfl,?_⟩
  rw [decide_eq_decide]
  repeat' split
  all_goals omega
theorem need_buf (n:Int):(n<0→rNeed 2 n=0∧rKnown 2 n=false)∧(3<n→rNeed 2 n=0∧rKnown 2 n=false)∧(0≤n→n≤3→rNeed 2 n=n∧rKnown 2 n=true):=by
  unfold rNeed rKnown
  refine ⟨fun h=>?_,fun h=>?_,fun h h'=>?_⟩
  · exact ⟨by simp [h],by simp; omega⟩
  · exact ⟨by simp [h],by simp; omega⟩
  · exact ⟨by simp; omega,by simp; omega⟩
theorem own_new (w:World) (c:Array Value) (e:Nat) (hc:c.size≤1000):(w.alloc (.cells c e)).ownsRow w.heap.size e 1 (.slice (some ⟨w.heap.size,0,none⟩) c.size c.size) c.size c.toList :=
  ⟨by simp,.inr ⟨w.heap.size,c.size,c,rfl,Nat.le_refl _,by show (w.heap.push _)[w.heap.size]?=_; simp,Nat.le_refl _,by unfold maxLen; omega,by simp,by simp [List.take_of_length_le]⟩⟩
def refNeedPost (k n:Int) (w:World) (e:Ending) (w':World):Prop:=e=.returned (.tuple #[.int .i64 (rNeed k n),.bool (rKnown k n)])∧Below w.heap.size w w'
theorem own_val {w:World} {B e:Nat} {v:Value} {n:Nat} {xs:List Value} (h:w.ownsRow B e 1 v n xs):∃ p cap,v=.slice p n cap∧n≤maxLen:=by
  obtain ⟨_,⟨rfl,rfl⟩ | ⟨g,cap,cur,rfl,_,_,hn,hm,_⟩⟩:=h
  · exact ⟨_,_,rfl,by simp⟩
  · exact ⟨_,_,rfl,by omega⟩
theorem rec_need (k n:Int) (w:World):Calls Try.prog 89 #[.int .i64 k,.int .i64 n] w (refNeedPost k n w):=by
  by_cases hk:k=2
  · subst hk
    obtain ⟨a,b,c⟩:=need_buf n
    by_cases h0:n<0
    · obtain ⟨a1,a2⟩:=a h0
      have A:=Lib.hid a1; have B:=Lib.hid a2; clear a b c a1 a2
      go_enter Try.func89,Try.ntmps89
      go_wp2
      go_ret2
      exact ⟨ret_ib A.out.symm B.out.symm,Below.refl _ _⟩
    · by_cases h3:3<n
      · obtain ⟨a1,a2⟩:=b h3
        have A:=Lib.hid a1; have B:=Lib.hid a2; clear a b c a1 a2
        go_enter Try.func89,Try.ntmps89
        go_wp2
        go_ret2
        exact ⟨ret_ib A.out.symm B.out.symm,Below.refl _ _⟩
      · obtain ⟨a1,a2⟩:=c (by omega) (by omega)
        have A:=Lib.hid a1; have B:=Lib.hid a2; clear a b c a1 a2
        go_enter Try.func89,Try.ntmps89
        go_wp2
        go_ret2
        exact ⟨ret_ib A.out.symm B.out.symm,Below.refl _ _⟩
  · obtain ⟨a1,a2⟩:=need_eq k n hk
    have A:=Lib.hid a1; have B:=Lib.hid a2; clear a1 a2
    have e2:(k == 2)=false:=by rw [beq_eq_false_iff_ne]; exact hk
    have F:=Lib.hid (rec_fields k w)
    clear hk
    go_enter Try.func89,Try.ntmps89
    go_wp2_with fail
    refine F.out.mono ?_
    rintro e w' ⟨v,rfl,hb,hown⟩
    obtain ⟨p,cap,rfl,hm⟩:=own_val hown
    unfold maxLen at hm
    generalize (rNames k).length=m at *
    clear hown F
    go_wp2
    go_ret2
    exact ⟨ret_ib A.out.symm B.out.symm,hb⟩
theorem refr_fields (k:Int) (w:World):Calls Try.prog 71 #[.int .i64 k] w (GivesStrs (rNames k) w):=by
  obtain rfl | rfl | rfl | rfl | rfl | h:=kind_cases k
  · have e:rNames 1=[bs [99,97,112],bs [99,108,111,115,101,100],bs [99,111,117,110,116],bs [115,116,97,114,116],bs [98,117,102],bs [116,97,107,101,104,101,97,100],bs [116,97,107,101,116,97,105,108],bs [115,101,110,100,104,101,97,100],bs [115,101,110,100,116,97,105,108]]:=by decide +kernel
    rw [e]; clear e
    go_enter Try.func71,Try.ntmps71
    go_wp2
    go_ret
    exact ⟨_,rfl,(Below.refl _ _).alloc (Nat.le_refl _) _,own_new _ _ _ (by decide)⟩
  · have e:rNames 3=[bs [103,111,114],bs [99,104,97,110],bs [118,97,108,117,101],bs [110,101,120,116],bs [116,111],bs [114,101,103],bs [109,111,114,101]]:=by decide +kernel
    rw [e]; clear e
    go_enter Try.func71,Try.ntmps71
    go_wp2
    go_ret
    exact ⟨_,rfl,(Below.refl _ _).alloc (Nat.le_refl _) _,own_new _ _ _ (by decide)⟩
  · have e:rNames 4=[bs [105,100],bs [115,116,97,116,117,115],bs [112,99],bs [97],bs [98],bs [99],bs [100],bs [101],bs [102],bs [115,117,100,111,103,115]]:=by decide +kernel
    rw [e]; clear e
    go_enter Try.func71,Try.ntmps71
    go_wp2
    go_ret
    exact ⟨_,rfl,(Below.refl _ _).alloc (Nat.le_refl _) _,own_new _ _ _ (by decide)⟩
  · have e:rNames 5=[bs [118,97,108,117,101],bs [102,105,110,97,108]]:=by decide +kernel
    rw [e]; clear e
    go_enter Try.func71,Try.ntmps71
    go_wp2
    go_ret
    exact ⟨_,rfl,(Below.refl _ _).alloc (Nat.le_refl _) _,own_new _ _ _ (by decide)⟩
  · have e:rNames 6=[bs [119,104,101,110],bs [99,104,97,110]]:=by decide +kernel
    rw [e]; clear e
    go_enter Try.func71,Try.ntmps71
    go_wp2
    go_ret
    exact ⟨_,rfl,(Below.refl _ _).alloc (Nat.le_refl _) _,own_new _ _ _ (by decide)⟩
  · have:rNames k=[]:=by unfold rNames; rw [rText_none h]; rfl
    rw [this]; clear this
    have h1:(k == 1)=false:=by rw [beq_eq_false_iff_ne]; omega
    have h3:(k == 3)=false:=by rw [beq_eq_false_iff_ne]; omega
    have h4:(k == 4)=false:=by rw [beq_eq_false_iff_ne]; omega
    have h5:(k == 5)=false:=by rw [beq_eq_false_iff_ne]; omega
    have h6:(k == 6)=false:=by rw [beq_eq_false_iff_ne]; omega
    clear h
    go_enter Try.func71,Try.ntmps71
    go_wp2
    go_ret
    exact ⟨_,rfl,Below.refl _ _,World.ownsRow_nil _ _ _ _⟩
theorem refr_need (k n:Int) (w:World):Calls Try.prog 40 #[.int .i64 k,.int .i64 n] w (refNeedPost k n w):=by
  by_cases hk:k=2
  · subst hk
    obtain ⟨a,b,c⟩:=need_buf n
    by_cases h0:n<0
    · obtain ⟨a1,a2⟩:=a h0
      have A:=Lib.hid a1; have B:=Lib.hid a2; clear a b c a1 a2
      go_enter Try.func40,Try.ntmps40
      go_wp2
      go_ret2
      exact ⟨ret_ib A.out.symm B.out.symm,Below.refl _ _⟩
    · by_cases h3:3<n
      · obtain ⟨a1,a2⟩:=b h3
        have A:=Lib.hid a1; have B:=Lib.hid a2; clear a b c a1 a2
        go_enter Try.func40,Try.ntmps40
        go_wp2
        go_ret2
        exact ⟨ret_ib A.out.symm B.out.symm,Below.refl _ _⟩
      · obtain ⟨a1,a2⟩:=c (by omega) (by omega)
        have A:=Lib.hid a1; have B:=Lib.hid a2; clear a b c a1 a2
        go_enter Try.func40,Try.ntmps40
        go_wp2
        go_ret2
        exact ⟨ret_ib A.out.symm B.out.symm,Below.refl _ _⟩
  · obtain ⟨a1,a2⟩:=need_eq k n hk
    have A:=Lib.hid a1; have B:=Lib.hid a2; clear a1 a2
    have e2:(k == 2)=false:=by rw [beq_eq_false_iff_ne]; exact hk
    have F:=Lib.hid (refr_fields k w)
    clear hk
    go_enter Try.func40,Try.ntmps40
    go_wp2_with fail
    refine F.out.mono ?_
    rintro e w' ⟨v,rfl,hb,hown⟩
    obtain ⟨p,cap,rfl,hm⟩:=own_val hown
    unfold maxLen at hm
    generalize (rNames k).length=m at *
    clear hown F
    go_wp2
    go_ret2
    exact ⟨ret_ib A.out.symm B.out.symm,hb⟩
end Go.Proofs.Ytffnjpapggidlaa
