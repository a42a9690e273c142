/- Grey Grey2 Grey3 GreyRef -/
import Derived.Test.YtffnjpapggidlaaKPlain
import Derived.Test.YtffnjpapggidlaaKMem
import Derived.Test.YtffnjpapggidlaaRows
import Derived.WalkKit
import Derived.WalkSpells
import Derived.WalkLawsBesides
import Derived.BigRegion
import Derived.RegionTactic
import Derived.ChangeAlike
import Derived.Deep.AppendLies
namespace Go.Proofs.Ytffnjpapggidlaa
open Go.RowKit
def ones (n:Nat):ByteArray:=⟨Array.replicate n 111⟩
theorem ones_size (n:Nat):(ones n).size=n:=by show (Array.replicate n (111:UInt8)).size=n; simp
theorem ones_get (n i:Nat) (h:i<(ones n).size):((ones n)[i]'h).toNat<128:=by
  have:(ones n)[i]'h=111:=Array.getElem_replicate h
  rw [this]; decide
theorem ones_snoc (n:Nat):ones n ++ ⟨#[111]⟩=ones (n+1):=by
  apply ByteArray.ext
  show (ones n ++ ⟨#[111]⟩).data=(Array.replicate (n+1) (111:UInt8))
  rw [ByteArray.data_append]
  show Array.replicate n (111:UInt8) ++ #[111]=_
  rw [Array.replicate_succ]; rfl
theorem ones_cut (n i:Nat) (h:i≤n):(ones n).extract 0 i=ones i:=by
  apply ByteArray.ext
  show ((ones n).extract 0 i).data=(Array.replicate i (111:UInt8))
  rw [ByteArray.data_extract]
  show (Array.replicate n (111:UInt8)).extract 0 i=_
  rw [Array.extract_replicate]; congr 1; omega
def GreyAt (w:World) (b:Nat) (L:List Int) (ov:Bool) (F:List Nat):Prop :=
  ∃ lv,Blk w b 157 #[lv,.string (ones L.length),.bool ov]∧w.ownsRow 0 3 1 lv L.length (L.map (.int .i64))∧L.length≤8∧F=b::lv.ownBlock.toList
theorem GreyAt.keep {w w':World} {b:Nat} {L:List Int} {ov:Bool} {F G:List Nat} (h:GreyAt w b L ov F) (k:Keeps G w w') (hd:∀ i ∈ F,i ∉ G):GreyAt w' b L ov F:=by
  obtain ⟨lv,h1,h2,h3,rfl⟩:=h
  exact ⟨lv,k.blk h1 (hd _ (by simp)),k.own h2 (fun g hg=>hd _ (by simp [hg])),h3,rfl⟩
theorem GreyAt.lt {w:World} {b:Nat} {L:List Int} {ov:Bool} {F:List Nat} (h:GreyAt w b L ov F):∀ i ∈ F,i<w.heap.size:=by
  obtain ⟨lv,h1,h2,h3,rfl⟩:=h
  intro i hi
  simp at hi
  rcases hi with rfl | hi
  · exact h1.lt
  · exact own_lt h2 i hi
def GreyDoes (r:Ending) (b:Nat) (L':List Int) (ov':Bool) (F:List Nat) (w:World) (e:Ending) (w':World):Prop :=
  e=r∧∃ F',GreyAt w' b L' ov' F'∧Keeps F w w'∧∀ i ∈ F',i ∈ F ∨ w.heap.size≤i
theorem grey_New (w:World):Calls Try.prog 88 #[] w (GreyDoes (.returned (.pointer (some ⟨w.heap.size,0,none⟩))) w.heap.size [] false [] w):=by
  go_enter Try.func88,Try.ntmps88
  go_wp2
  go_ret
  refine ⟨rfl,[w.heap.size],⟨.slice none 0 0,Blk.new _ _ _,World.ownsRow_nil _ _ _ _,by simp,rfl⟩,(Keeps.refl _ _).alloc _,by simp⟩
set_option maxRecDepth 100000 in
theorem grey_Len (b n:Nat) (hn:n≤1000) (w:World) (hc:w.cell? ⟨b,1,none⟩=some (.string (ones n))) :
    Calls Try.prog 108 #[.pointer (some ⟨b,0,none⟩)] w fun e w'=>e=.returned (.int .i64 n)∧Below w.heap.size w w':=by
  go_enter Try.func108,Try.ntmps108
  go_wp2
  go_loopw [3] (fun c w'=>∃ pos:Nat,pos≤n∧w'=w.iter (ones n) pos∧c=.int .i64 pos) (fun _ w'=>n - w'.iterPos w.heap.size)
  case atStart=>exact ⟨0,by omega,rfl,rfl⟩
  case round =>
    obtain ⟨pos,hp,rfl,rfl⟩:=hrel
    by_cases hlt:pos<n
    · obtain ⟨c,hnx⟩:∃ c:Nat,∀ ty,(Instr.next (.pointer (some ⟨w.heap.size,0,none⟩)) true ty).run Try.prog (w.iter (ones n) pos)=.ok (.tuple #[.bool true,.int .i64 pos,.int .i32 c]) (w.iter (ones n) (pos+1)) :=
        ⟨_,fun ty=>run_next_ascii w (ones n) pos ty (by rw [ones_size]; exact hlt) (ones_get _ _ _)⟩
      go_wp2
      go_roundw
      case rel=>exact ⟨pos+1,by omega,rfl,by go_num⟩
      case measure=>simp; omega
    · have hnx:∀ ty,(Instr.next (.pointer (some ⟨w.heap.size,0,none⟩)) true ty).run Try.prog (w.iter (ones n) pos)=_:=fun ty=>run_next_end w (ones n) pos ty (by rw [ones_size]; exact hlt)
      go_wp2
      go_ret
      exact ⟨ret_i (by omega),iter_belowM _ _ _⟩
set_option maxRecDepth 100000 in
theorem grey_last (b n:Nat) (hn:n≤1000) (w:World) (hc:w.cell? ⟨b,1,none⟩=some (.string (ones n))) :
    Calls Try.prog 116 #[.pointer (some ⟨b,0,none⟩)] w fun e w'=>e=.returned (.int .i64 ((n:Int) - 1))∧Below w.heap.size w w':=by
  go_enter Try.func116,Try.ntmps116
  go_wp2
  go_loopw [3] (fun c w'=>∃ pos:Nat,pos≤n∧w'=w.iter (ones n) pos∧c=.int .i64 ((pos:Int) - 1)) (fun _ w'=>n - w'.iterPos w.heap.size)
  case atStart=>exact ⟨0,by omega,rfl,rfl⟩
  case round =>
    obtain ⟨pos,hp,rfl,rfl⟩:=hrel
    by_cases hlt:pos<n
    · obtain ⟨c,hnx⟩:∃ c:Nat,∀ ty,(Instr.next (.pointer (some ⟨w.heap.size,0,none⟩)) true ty).run Try.prog (w.iter (ones n) pos)=.ok (.tuple #[.bool true,.int .i64 pos,.int .i32 c]) (w.iter (ones n) (pos+1)) :=
        ⟨_,fun ty=>run_next_ascii w (ones n) pos ty (by rw [ones_size]; exact hlt) (ones_get _ _ _)⟩
      go_wp2
      go_roundw
      case rel=>exact ⟨pos+1,by omega,rfl,by congr 1; omega⟩
      case measure=>simp; omega
    · have hnx:∀ ty,(Instr.next (.pointer (some ⟨w.heap.size,0,none⟩)) true ty).run Try.prog (w.iter (ones n) pos)=_:=fun ty=>run_next_end w (ones n) pos ty (by rw [ones_size]; exact hlt)
      go_wp2
      go_ret
      exact ⟨ret_i (by omega),iter_belowM _ _ _⟩
end Go.Proofs.Ytffnjpapggidlaa
namespace Go.Proofs.Ytffnjpapggidlaa
open Go.RowKit
theorem info_int:(Try.prog.info? 3).map (fun i=>(i.zero,i.size,i.bytes))=some (some (.int .i64 0),1,8):=by kernel_rfl
set_option maxRecDepth 100000 in
set_option maxHeartbeats 1000000 in
theorem grey_Push (b:Nat) (L:List Int) (ov:Bool) (F:List Nat) (a:Int) (w:World) (hG:GreyAt w b L ov F) (hlt:L.length<8) :
    Calls Try.prog 97 #[.pointer (some ⟨b,0,none⟩),.int .i64 a] w (GreyDoes (.returned (.bool true)) b (L ++ [a]) ov F w):=by
  obtain ⟨lv,hb,hown,hl,hF⟩:=hG
  obtain ⟨i0,hi,hz0,hz1,hz2⟩:=info_parts info_int
  have c1:=hb.cell 1
  simp at c1
  have HF:=Lib.hid hF
  clear hF
  go_enter Try.func97,Try.ntmps97
  go_wp2_with fail
  refine (grey_Len b L.length (by omega) _ c1).mono ?_
  rintro e w1 ⟨rfl,hb1⟩
  have hB:=hb.below hb1 hb.lt
  have hown1:=(Keeps.of_below hb1 []).own hown (by simp)
  have hne:=own_type hown1 hB (by decide)
  have d0:=hB.cell 0
  have d1:=hB.cell 1
  have f0:=hB.free 0
  have f1:=hB.free 1
  simp at d0 d1
  clear c1 hown
  go_wp2_with (at_builtin; refine wpList_append_own_at _ rfl _ _ 22 rfl 0 3 i0 (.int .i64 0) 1 8 Try.underlying22 hi hz0 hz1 hz2 rfl (by decide) _ _ _ rfl (hown1.alloc _) ⟨w1.heap.size,0,none⟩ 1 1 [.int .i64 a] rfl rfl (cell_one_new _ _ _) ?c2 ?c3 ?c4 ?c5 ?_)
  case c2=>first | rfl | (intro u hu; simp at hu; subst hu; rfl)
  case c3=>unfold maxLen; omega
  case c4=>omega
  case c5=>omega
  intro v' w2 hown2 hg2 _ hat
  obtain ⟨g,cap,hv,-⟩:=own_form hown2 (by omega)
  subst hv
  have hsz:=hg2.size
  simp at hsz
  have hlt1:=hB.lt
  have hB2:Blk w2 b 157 #[lv,.string (ones L.length),.bool ov]:=(hB.alloc _).of_eq (hg2.block b (by simp; omega) (by intro e; exact hne b e.symm rfl))
  have e0:=hB2.cell 0
  have e1:=hB2.cell 1
  have g0:=hB2.free 0
  have g1:=hB2.free 1
  simp at e0 e1
  have hk:Keeps (b::lv.ownBlock.toList) w w2:=((Keeps.of_below hb1 _).alloc _).grown hg2 (by
    intro k hk; left; simp [hk])
  have hne2:g≠b:=own_type hown2 hB2 (by decide) g rfl
  have hat':some g=lv.ownBlock ∨ w.heap.size≤g:=by
    rcases hat with h | h
    · left; exact h
    · right; have:=hb1.size; injection h with hg; (try simp at hg); omega
  have os:=ones_snoc L.length
  have ol:=ones_size L.length
  clear hne hb1 hb d0 d1 f0 f1 hg2 hown1 hat hB
  have OL:=Lib.hid ol
  have OS:=Lib.hid os
  have hsum:(ones L.length).size+1≤100:=by omega
  clear ol os
  go_wp2
  go_ret
  refine ⟨rfl,b::[g],⟨.slice (some ⟨g,0,none⟩) (L.length+1) cap,?_,?_,by simp; omega,rfl⟩,?_,?_⟩
  · have:=(hB2.set 0 (.slice (some ⟨g,0,none⟩) (L.length+1) cap)).set 1 (.string (ones L.length ++ ⟨#[111]⟩))
    rw [OS.out] at this
    rw [OS.out]
    simpa using this
  · have h3:=(((Keeps.refl [b] w2).set (p:=⟨b,0,none⟩) (by simp) (.slice (some ⟨g,0,none⟩) (L.length+1) cap)).set (p:=⟨b,1,none⟩) (by simp) (.string (ones L.length ++ ⟨#[111]⟩))).own hown2 (by intro k hk; injection hk with hk; subst hk; simpa using hne2)
    simpa using h3
  · rw [HF.out]; exact (hk.set (by simp) _).set (by simp) _
  · intro i hi
    rw [HF.out]
    simp at hi ⊢
    rcases hi with rfl | rfl
    · exact .inl (.inl rfl)
    · rcases hat' with h | h
      · exact .inl (.inr h.symm)
      · exact .inr h
end Go.Proofs.Ytffnjpapggidlaa
namespace Go.Proofs.Ytffnjpapggidlaa
open Go.RowKit
set_option maxRecDepth 100000 in
theorem grey_Push_full (b:Nat) (L:List Int) (ov:Bool) (F:List Nat) (a:Int) (w:World) (hG:GreyAt w b L ov F) (hlt:L.length=8) :
    Calls Try.prog 97 #[.pointer (some ⟨b,0,none⟩),.int .i64 a] w (GreyDoes (.returned (.bool false)) b L true F w):=by
  obtain ⟨lv,hb,hown,hl,hF⟩:=hG
  have c1:=hb.cell 1
  simp at c1
  have HF:=Lib.hid hF
  have h8:8≤L.length:=by omega
  clear hF hlt
  go_enter Try.func97,Try.ntmps97
  go_wp2_with fail
  refine (grey_Len b L.length (by omega) _ c1).mono ?_
  rintro e w1 ⟨rfl,hb1⟩
  have hB:=hb.below hb1 hb.lt
  have hown1:=(Keeps.of_below hb1 []).own hown (by simp)
  have hne:=own_type hown1 hB (by decide)
  have d2:=hB.cell 2
  have f2:=hB.free 2
  simp at d2
  have NE:=Lib.hid hne
  clear c1 hown hne
  go_wp2
  go_ret
  refine ⟨rfl,b::lv.ownBlock.toList,⟨lv,?_,?_,hl,rfl⟩,?_,?_⟩
  · simpa using hB.set 2 (.bool true)
  · exact ((Keeps.refl [b] w1).set (p:=⟨b,2,none⟩) (by simp) _).own hown1 (fun k hk=>by simpa using NE.out k hk)
  · exact (Keeps.of_below hb1 F).set (by rw [HF.out]; simp) _
  · intro i hi; left; rw [HF.out]; exact hi
set_option maxRecDepth 100000 in
theorem grey_Pop_none (b:Nat) (ov:Bool) (F:List Nat) (w:World) (hG:GreyAt w b [] ov F) :
    Calls Try.prog 112 #[.pointer (some ⟨b,0,none⟩)] w (GreyDoes (.returned (.tuple #[.int .i64 0,.bool false])) b [] ov F w):=by
  have G:=Lib.hid hG
  obtain ⟨lv,hb,hown,hl,hF⟩:=hG
  have c1:=hb.cell 1
  simp at c1
  clear hF hl hown
  go_enter Try.func112,Try.ntmps112
  go_wp2_with fail
  refine (grey_Len b 0 (by omega) _ c1).mono ?_
  rintro e w1 ⟨rfl,hb1⟩
  go_wp2
  go_ret2
  exact ⟨rfl,F,G.out.keep (Keeps.of_below hb1 []) (by simp),Keeps.of_below hb1 F,fun i hi=>.inl hi⟩
set_option maxRecDepth 100000 in
set_option maxHeartbeats 1000000 in
theorem grey_Pop (b:Nat) (L:List Int) (x:Int) (ov:Bool) (F:List Nat) (w:World) (hG:GreyAt w b (L ++ [x]) ov F) :
    Calls Try.prog 112 #[.pointer (some ⟨b,0,none⟩)] w (GreyDoes (.returned (.tuple #[.int .i64 x,.bool true])) b L ov F w):=by
  obtain ⟨lv,hb,hown,hl,hF⟩:=hG
  obtain ⟨g,cap,hv,hnc,hcm,hg⟩:=own_form hown (by simp)
  subst hv
  simp only [List.length_append,List.length_cons,List.length_nil,Nat.zero_add] at *
  have c1:=hb.cell 1
  simp at c1
  have HF:=Lib.hid hF
  unfold maxLen at hcm
  clear hF
  go_enter Try.func112,Try.ntmps112
  go_wp2_with fail
  refine (grey_Len b (L.length+1) (by omega) _ c1).mono ?_
  rintro e w1 ⟨rfl,hb1⟩
  have hB:=hb.below hb1 hb.lt
  have hown1:=(Keeps.of_below hb1 []).own hown (by simp)
  have d1:=hB.cell 1
  simp at d1
  clear c1
  go_wp2_with fail
  refine (grey_last b (L.length+1) (by omega) _ d1).mono ?_
  rintro e w2 ⟨rfl,hb2⟩
  have hB2:=hB.below hb2 hB.lt
  have hown2:=(Keeps.of_below hb2 []).own hown1 (by simp)
  have hne2:g≠b:=own_type hown2 hB2 (by decide) g rfl
  have e0:=hB2.cell 0
  have e1:=hB2.cell 1
  have f0:=hB2.free 0
  have f1:=hB2.free 1
  have e2:=own_cell hown2 rfl L.length (by simp)
  simp at e0 e1 e2
  have hcut:=ones_cut (L.length+1) L.length (by omega)
  have hos:=ones_size (L.length+1)
  have hi1:((L.length+1:Nat):Int) - 1=L.length:=by omega
  rw [hi1]
  have H1:=Lib.hid hb1
  have H2:=Lib.hid hb2
  have O2:=Lib.hid hown2
  have HC:=Lib.hid hcut
  have NE:=Lib.hid hne2
  have hle:L.length≤(ones (L.length+1)).size:=by omega
  clear hb1 hb2 hown2 hown1 hown hB hb d1 hos hcut hi1
  go_wp2
  go_region
  all_goals go_wp2
  all_goals go_ret2
  refine ⟨rfl,[b,g],⟨.slice (some ⟨g,0,none⟩) L.length cap,?_,?_,by omega,rfl⟩,?_,?_⟩
  · rw [HC.out]
    refine Blk.drew ?_
    simpa using (hB2.set 0 (.slice (some ⟨g,0,none⟩) L.length cap)).set 1 (.string (ones L.length))
  · have h3:=own_cut O2.out L.length (by omega)
    simp at h3
    exact ((((Keeps.refl [b] w2).set (by simp) _).set (by simp) _).drew).own h3 (by intro k hk; injection hk with hk; subst hk; simpa using NE.out)
  · rw [HF.out]
    exact ((((Keeps.of_below H1.out _).next H2.out).set (by simp) _).set (by simp) _).drew
  · intro i hi; left; rw [HF.out]; simpa [Value.ownBlock] using hi
theorem grey_Over (b:Nat) (L:List Int) (ov:Bool) (F:List Nat) (w:World) (hG:GreyAt w b L ov F) :
    Calls Try.prog 113 #[.pointer (some ⟨b,0,none⟩)] w fun e w'=>e=.returned (.bool ov)∧w=w':=by
  obtain ⟨lv,hb,hown,hl,hF⟩:=hG
  have c2:=hb.cell 2
  simp at c2
  clear hF hl hown
  go_enter Try.func113,Try.ntmps113
  go_wp2
  go_ret
  exact ⟨rfl,rfl⟩
theorem grey_Settle (b:Nat) (L:List Int) (ov:Bool) (F:List Nat) (w:World) (hG:GreyAt w b L ov F) :
    Calls Try.prog 114 #[.pointer (some ⟨b,0,none⟩)] w (GreyDoes (.returned (.tuple #[])) b L false F w):=by
  obtain ⟨lv,hb,hown,hl,hF⟩:=hG
  have c2:=hb.cell 2
  have f2:=hb.free 2
  have hne:=own_type hown hb (by decide)
  simp at c2
  have HF:=Lib.hid hF
  have NE:=Lib.hid hne
  have O:=Lib.hid hown
  clear hF hown hne
  go_enter Try.func114,Try.ntmps114
  go_wp2
  go_end0
  refine ⟨rfl,b::lv.ownBlock.toList,⟨lv,?_,?_,hl,rfl⟩,?_,?_⟩
  · simpa using hb.set 2 (.bool false)
  · exact ((Keeps.refl [b] w).set (p:=⟨b,2,none⟩) (by simp) _).own O.out (fun k hk=>by simpa using NE.out k hk)
  · exact (Keeps.refl F w).set (by rw [HF.out]; simp) _
  · intro i hi; left; rw [HF.out]; exact hi
theorem grey_Len_nil (w:World):Calls Try.prog 108 #[.pointer none] w fun e w'=>e=.returned (.int .i64 0)∧w=w':=by
  go_enter Try.func108,Try.ntmps108
  go_wp2
  go_ret
  exact ⟨rfl,rfl⟩
theorem grey_Push_nil (a:Int) (w:World):Calls Try.prog 97 #[.pointer none,.int .i64 a] w fun e w'=>e=.returned (.bool false)∧w=w':=by
  go_enter Try.func97,Try.ntmps97
  go_wp2
  go_ret
  exact ⟨rfl,rfl⟩
theorem grey_Pop_nil (w:World):Calls Try.prog 112 #[.pointer none] w fun e w'=>e=.returned (.tuple #[.int .i64 0,.bool false])∧w=w':=by
  go_enter Try.func112,Try.ntmps112
  go_wp2_with (go_at_call 108; refine (grey_Len_nil _).mono ?_; rintro e w' ⟨rfl,rfl⟩)
  go_ret2
  exact ⟨rfl,rfl⟩
theorem grey_Over_nil (w:World):Calls Try.prog 113 #[.pointer none] w fun e w'=>e=.returned (.bool false)∧w=w':=by
  go_enter Try.func113,Try.ntmps113
  go_wp2
  go_ret
  exact ⟨rfl,rfl⟩
theorem grey_Settle_nil (w:World):Calls Try.prog 114 #[.pointer none] w fun e w'=>e=.returned (.tuple #[])∧w=w':=by
  go_enter Try.func114,Try.ntmps114
  go_wp2
  go_end0
  exact ⟨rfl,rfl⟩
end Go.Proofs.Ytffnjpapggidlaa
namespace Go.Proofs.Ytffnjpapggidlaa
open Go.RowKit
theorem run_append_nil_nil (w:World) (ty:TypeId):(Builtin.append_ #[22,22] ty #[.slice none 0 0,.slice none 0 0]).run Try.prog w=.ok (.slice none 0 0) w:=by kernel_rfl
theorem news_of_own {w:World} {B e:Nat} {g cap n:Nat} {xs:List Value} (h:w.ownsRow B e 1 (.slice (some ⟨g,0,none⟩) n cap) n xs):∀ j u,xs[j]?=some u→w.cell? ((⟨g,0,none⟩:Addr).add j)=some u:=h.cells rfl
end Go.Proofs.Ytffnjpapggidlaa
