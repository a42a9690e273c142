/- Grey Grey2 Grey3 GreyRef -/
import Derived.Test.YtffnjpapggidlaaGreatKPlain
import Derived.Test.YtffnjpapggidlaaGreatKMem
import Derived.Test.YtffnjpapggidlaaGreatRows
import Derived.WalkKit
import Derived.WalkSpells
import Derived.WalkLawsBesides
import Derived.BigRegion
import Derived.RegionTactic
import Derived.ChangeAlike
import Derived.Deep.AppendLies
namespace Go.Proofs.YtffnjpapggidlaaGreat
open Go.RowKit
def ones (n:Nat):ByteArray:=⟨Array.replicate n 111⟩
theorem ones_size (n:Nat):(ones n).size=n:=by show (Array.replicate n (111:UInt8)).size=n; simp
theorem ones_get (n i:Nat) (h:i<(ones n).size):((ones n)[i]'h).toNat<128:=by
  have:(ones n)[i]'h=111:=Array.getElem_replicate h
  rw [this]; decide
theorem ones_snoc (n:Nat):ones n ++ ⟨#[111]⟩=ones (n+1):=by
  apply ByteArray.ext
  show (ones n ++ ⟨#[111]⟩).data=(Array.replicate (n+1) (111:UInt8))
  rw [ByteArray.data_append]
  show Array.replicate n (111:UInt8) ++ #[111]=_
  rw [Array.replicate_succ]; rfl
theorem ones_cut (n i:Nat) (h:i≤n):(ones n).extract 0 i=ones i:=by
  apply ByteArray.ext
  show ((ones n).extract 0 i).data=(Array.replicate i (111:UInt8))
  rw [ByteArray.data_extract]
  show (Array.replicate n (111:UInt8)).extract 0 i=_
  rw [Array.extract_replicate]; congr 1; omega
def GreyAt (w:World) (b:Nat) (L:List Int) (ov:Bool) (F:List Nat):Prop :=
  ∃ lv,Blk w b 248 #[lv,.string (ones L.length),.bool ov]∧w.ownsRow 0 3 1 lv L.length (L.map (.int .i64))∧L.length≤8∧F=b::lv.ownBlock.toList
theorem GreyAt.keep {w w':World} {b:Nat} {L:List Int} {ov:Bool} {F G:List Nat} (h:GreyAt w b L ov F) (k:Keeps G w w') (hd:∀ i ∈ F,i ∉ G):GreyAt w' b L ov F:=by
  obtain ⟨lv,h1,h2,h3,rfl⟩:=h
  exact ⟨lv,k.blk h1 (hd _ (by simp)),k.own h2 (fun g hg=>hd _ (by simp [hg])),h3,rfl⟩
theorem GreyAt.lt {w:World} {b:Nat} {L:List Int} {ov:Bool} {F:List Nat} (h:GreyAt w b L ov F):∀ i ∈ F,i<w.heap.size:=by
  obtain ⟨lv,h1,h2,h3,rfl⟩:=h
  intro i hi
  simp at hi
  rcases hi with rfl | hi
  · exact h1.lt
  · exact own_lt h2 i hi
def GreyDoes (r:Ending) (b:Nat) (L':List Int) (ov':Bool) (F:List Nat) (w:World) (e:Ending) (w':World):Prop :=
  e=r∧∃ F',GreyAt w' b L' ov' F'∧Keeps F w w'∧∀ i ∈ F',i ∈ F ∨ w.heap.size≤i
theorem grey_New (w:World):Calls Tryz.prog 124 #[] w (GreyDoes (.returned (.pointer (some ⟨w.heap.size,0,none⟩))) w.heap.size [] false [] w):=by
  go_enter Tryz.func124,Tryz.ntmps124
  go_wp2
  go_ret
  refine ⟨rfl,[w.heap.size],⟨.slice none 0 0,Blk.new _ _ _,World.ownsRow_nil _ _ _ _,by simp,rfl⟩,(Keeps.refl _ _).alloc _,by simp⟩
set_option maxRecDepth 100000 in
theorem grey_Len (b n:Nat) (hn:n≤1000) (w:World) (hc:w.cell? ⟨b,1,none⟩=some (.string (ones n))) :
    Calls Tryz.prog 221 #[.pointer (some ⟨b,0,none⟩)] w fun e w'=>e=.returned (.int .i64 n)∧Below w.heap.size w w':=by
  go_enter Tryz.func221,Tryz.ntmps221
  go_wp2
  go_loopw [3] (fun c w'=>∃ pos:Nat,pos≤n∧w'=w.iter (ones n) pos∧c=.int .i64 pos) (fun _ w'=>n - w'.iterPos w.heap.size)
  case atStart=>exact ⟨0,by omega,rfl,rfl⟩
  case round =>
    obtain ⟨pos,hp,rfl,rfl⟩:=hrel
    by_cases hlt:pos<n
    · obtain ⟨c,hnx⟩:∃ c:Nat,∀ ty,(Instr.next (.pointer (some ⟨w.heap.size,0,none⟩)) true ty).run Tryz.prog (w.iter (ones n) pos)=.ok (.tuple #[.bool true,.int .i64 pos,.int .i32 c]) (w.iter (ones n) (pos+1)) :=
        ⟨_,fun ty=>run_next_ascii w (ones n) pos ty (by rw [ones_size]; exact hlt) (ones_get _ _ _)⟩
      go_wp2
      go_roundw
      case rel=>exact ⟨pos+1,by omega,rfl,by go_num⟩
      case measure=>simp; omega
    · have hnx:∀ ty,(Instr.next (.pointer (some ⟨w.heap.size,0,none⟩)) true ty).run Tryz.prog (w.iter (ones n) pos)=_:=fun ty=>run_next_end w (ones n) pos ty (by rw [ones_size]; exact hlt)
      go_wp2
      go_ret
      exact ⟨ret_i (by omega),iter_belowM _ _ _⟩
set_option maxRecDepth 100000 in
theorem grey_last (b n:Nat) (hn:n≤1000) (w:World) (hc:w.cell? ⟨b,1,none⟩=some (.string (ones n))) :
    Calls Tryz.prog 241 #[.pointer (some ⟨b,0,none⟩)] w fun e w'=>e=.returned (.int .i64 ((n:Int) - 1))∧Below w.heap.size w w':=by
  go_enter Tryz.func241,Tryz.ntmps241
  go_wp2
  go_loopw [3] (fun c w'=>∃ pos:Nat,pos≤n∧w'=w.iter (ones n) pos∧c=.int .i64 ((pos:Int) - 1)) (fun _ w'=>n - w'.iterPos w.heap.size)
  case atStart=>exact ⟨0,by omega,rfl,rfl⟩
  case round =>
    obtain ⟨pos,hp,rfl,rfl⟩:=hrel
    by_cases hlt:pos<n
    · obtain ⟨c,hnx⟩:∃ c:Nat,∀ ty,(Instr.next (.pointer (some ⟨w.heap.size,0,none⟩)) true ty).run Tryz.prog (w.iter (ones n) pos)=.ok (.tuple #[.bool true,.int .i64 pos,.int .i32 c]) (w.iter (ones n) (pos+1)) :=
        ⟨_,fun ty=>run_next_ascii w (ones n) pos ty (by rw [ones_size]; exact hlt) (ones_get _ _ _)⟩
      go_wp2
      go_roundw
      case rel=>exact ⟨pos+1,by omega,rfl,by congr 1; omega⟩
      case measure=>simp; omega
    · have hnx:∀ ty,(Instr.next (.pointer (some ⟨w.heap.size,0,none⟩)) true ty).run Tryz.prog (w.iter (ones n) pos)=_:=fun ty=>run_next_end w (ones n) pos ty (by rw [ones_size]; exact hlt)
      go_wp2
      go_ret
      exact ⟨ret_i (by omega),iter_belowM _ _ _⟩
end Go.Proofs.YtffnjpapggidlaaGreat
namespace Go.Proofs.YtffnjpapggidlaaGreat
open Go.RowKit
theorem info_int:(Tryz.prog.info? 3).map (fun i=>(i.zero,i.size,i.bytes))=some (some (.int .i64 0),1,8):=by kernel_rfl
set_option maxRecDepth 100000 in
set_option maxHeartbeats 1000000 in
theorem grey_Push (b:Nat) (L:List Int) (ov:Bool) (F:List Nat) (a:Int) (w:World) (hG:GreyAt w b L ov F) (hlt:L.length<8) :
    Calls Tryz.prog 186 #[.pointer (some ⟨b,0,none⟩),.int .i64 a] w (GreyDoes (.returned (.bool true)) b (L ++ [a]) ov F w):=by
  obtain ⟨lv,hb,hown,hl,hF⟩:=hG
  obtain ⟨i0,hi,hz0,hz1,hz2⟩:=info_parts info_int
  have c1:=hb.cell 1
  simp at c1
  have HF:=Lib.hid hF
  clear hF
  go_enter Tryz.func186,Tryz.ntmps186
  go_wp2_with fail
  refine (grey_Len b L.length (by omega) _ c1).mono ?_
  rintro e w1 ⟨rfl,hb1⟩
  have hB:=hb.below hb1 hb.lt
  have hown1:=(Keeps.of_below hb1 []).own hown (by simp)
  have hne:=own_type hown1 hB (by decide)
  have d0:=hB.cell 0
  have d1:=hB.cell 1
  have f0:=hB.free 0
  have f1:=hB.free 1
  simp at d0 d1
  clear c1 hown
  go_wp2_with (at_builtin; refine wpList_append_own_at _ rfl _ _ 47 rfl 0 3 i0 (.int .i64 0) 1 8 Tryz.underlying47 hi hz0 hz1 hz2 rfl (by decide) _ _ _ rfl (hown1.alloc _) ⟨w1.heap.size,0,none⟩ 1 1 [.int .i64 a] rfl rfl (cell_one_new _ _ _) ?c2 ?c3 ?c4 ?c5 ?_)
  case c2=>first | rfl | (intro u hu; simp at hu; subst hu; rfl)
  case c3=>unfold maxLen; omega
  case c4=>omega
  case c5=>omega
  intro v' w2 hown2 hg2 _ hat
  obtain ⟨g,cap,hv,-⟩:=own_form hown2 (by omega)
  subst hv
  have hsz:=hg2.size
  simp at hsz
  have hlt1:=hB.lt
  have hB2:Blk w2 b 248 #[lv,.string (ones L.length),.bool ov]:=(hB.alloc _).of_eq (hg2.block b (by simp; omega) (by intro e; exact hne b e.symm rfl))
  have e0:=hB2.cell 0
  have e1:=hB2.cell 1
  have g0:=hB2.free 0
  have g1:=hB2.free 1
  simp at e0 e1
  have hk:Keeps (b::lv.ownBlock.toList) w w2:=((Keeps.of_below hb1 _).alloc _).grown hg2 (by
    intro k hk; left; simp [hk])
  have hne2:g≠b:=own_type hown2 hB2 (by decide) g rfl
  have hat':some g=lv.ownBlock ∨ w.heap.size≤g:=by
    rcases hat with h | h
    · left; exact h
    · right; have:=hb1.size; injection h with hg; (try simp at hg); omega
  have os:=ones_snoc L.length
  have ol:=ones_size L.length
  clear hne hb1 hb d0 d1 f0 f1 hg2 hown1 hat hB
  have OL:=Lib.hid ol
  have OS:=Lib.hid os
  have hsum:(ones L.length).size+1≤100:=by omega
  clear ol os
  go_wp2
  go_ret
  refine ⟨rfl,b::[g],⟨.slice (some ⟨g,0,none⟩) (L.length+1) cap,?_,?_,by simp; omega,rfl⟩,?_,?_⟩
  · have:=(hB2.set 0 (.slice (some ⟨g,0,none⟩) (L.length+1) cap)).set 1 (.string (ones L.length ++ ⟨#[111]⟩))
    rw [OS.out] at this
    rw [OS.out]
    simpa using this
  · have h3:=(((Keeps.refl [b] w2).set (p:=⟨b,0,none⟩) (by simp) (.slice (some ⟨g,0,none⟩) (L.length+1) cap)).set (p:=⟨b,1,none⟩) (by simp) (.string (ones L.length ++ ⟨#[111]⟩))).own hown2 (by intro k hk; injection hk with hk; subst hk; simpa using hne2)
    simpa using h3
  · rw [HF.out]; exact (hk.set (by simp) _).set (by simp) _
  · intro i hi
    rw [HF.out]
    simp at hi ⊢
    rcases hi with rfl | rfl
    · exact .inl (.inl rfl)
    · rcases hat' with h | h
      · exact .inl (.inr h.symm)
      · exact .inr h
end Go.Proofs.YtffnjpapggidlaaGreat
namespace Go.Proofs.YtffnjpapggidlaaGreat
open Go.RowKit
set_option maxRecDepth 100000 in
theorem grey_Push_full (b:Nat) (L:List Int) (ov:Bool) (F:List Nat) (a:Int) (w:World) (hG:GreyAt w b L ov F) (hlt:L.length=8) :
    Calls Tryz.prog 186 #[.pointer (some ⟨b,0,none⟩),.int .i64 a] w (GreyDoes (.returned (.bool false)) b L true F w):=by
  obtain ⟨lv,hb,hown,hl,hF⟩:=hG
  have c1:=hb.cell 1
  simp at c1
  have HF:=Lib.hid hF
  have h8:8≤L.length:=by omega
  clear hF hlt
  go_enter Tryz.func186,Tryz.ntmps186
  go_wp2_with fail
  refine (grey_Len b L.length (by omega) _ c1).mono ?_
  rintro e w1 ⟨rfl,hb1⟩
  have hB:=hb.below hb1 hb.lt
  have hown1:=(Keeps.of_below hb1 []).own hown (by simp)
  have hne:=own_type hown1 hB (by decide)
  have d2:=hB.cell 2
  have f2:=hB.free 2
  simp at d2
  have NE:=Lib.hid hne
  clear c1 hown hne
  go_wp2
  go_ret
  refine ⟨rfl,b::lv.ownBlock.toList,⟨lv,?_,?_,hl,rfl⟩,?_,?_⟩
  · simpa using hB.set 2 (.bool true)
  · exact ((Keeps.refl [b] w1).set (p:=⟨b,2,none⟩) (by simp) _).own hown1 (fun k hk=>by simpa using NE.out k hk)
  · exact (Keeps.of_below hb1 F).set (by rw [HF.out]; simp) _
  · intro i hi; left; rw [HF.out]; exact hi
set_option maxRecDepth 100000 in
theorem grey_Pop_none (b:Nat) (ov:Bool) (F:List Nat) (w:World) (hG:GreyAt w b [] ov F) :
    Calls Tryz.prog 222 #[.pointer (some ⟨b,0,none⟩)] w (GreyDoes (.returned (.tuple #[.int .i64 0,.bool false])) b [] ov F w):=by
  have G:=Lib.hid hG
  obtain ⟨lv,hb,hown,hl,hF⟩:=hG
  have c1:=hb.cell 1
  simp at c1
  clear hF hl hown
  go_enter Tryz.func222,Tryz.ntmps222
  go_wp2_with fail
  refine (grey_Len b 0 (by omega) _ c1).mono ?_
  rintro e w1 ⟨rfl,hb1⟩
  go_wp2
  go_ret2
  exact ⟨rfl,F,G.out.keep (Keeps.of_below hb1 []) (by simp),Keeps.of_below hb1 F,fun i hi=>.inl hi⟩
set_option maxRecDepth 100000 in
set_option maxHeartbeats 1000000 in
theorem grey_Pop (b:Nat) (L:List Int) (x:Int) (ov:Bool) (F:List Nat) (w:World) (hG:GreyAt w b (L ++ [x]) ov F) :
    Calls Tryz.prog 222 #[.pointer (some ⟨b,0,none⟩)] w (GreyDoes (.returned (.tuple #[.int .i64 x,.bool true])) b L ov F w):=by
  obtain ⟨lv,hb,hown,hl,hF⟩:=hG
  obtain ⟨g,cap,hv,hnc,hcm,hg⟩:=own_form hown (by simp)
  subst hv
  simp only [List.length_append,List.length_cons,List.length_nil,Nat.zero_add] at *
  have c1:=hb.cell 1
  simp at c1
  have HF:=Lib.hid hF
  unfold maxLen at hcm
  clear hF
  go_enter Tryz.func222,Tryz.ntmps222
  go_wp2_with fail
  refine (grey_Len b (L.length+1) (by omega) _ c1).mono ?_
  rintro e w1 ⟨rfl,hb1⟩
  have hB:=hb.below hb1 hb.lt
  have hown1:=(Keeps.of_below hb1 []).own hown (by simp)
  have d1:=hB.cell 1
  simp at d1
  clear c1
  go_wp2_with fail
  refine (grey_last b (L.length+1) (by omega) _ d1).mono ?_
  rintro e w2 ⟨rfl,hb2⟩
  have hB2:=hB.below hb2 hB.lt
  have hown2:=(Keeps.of_below hb2 []).own hown1 (by simp)
  have hne2:g≠b:=own_type hown2 hB2 (by decide) g rfl
  have e0:=hB2.cell 0
  have e1:=hB2.cell 1
  have f0:=hB2.free 0
  have f1:=hB2.free 1
  have e2:=own_cell hown2 rfl L.length (by simp)
  simp at e0 e1 e2
  have hcut:=ones_cut (L.length+1) L.length (by omega)
  have hos:=ones_size (L.length+1)
  have hi1:((L.length+1:Nat):Int) - 1=L.length:=by omega
  rw [hi1]
  have H1:=Lib.hid hb1
  have H2:=Lib.hid hb2
  have O2:=Lib.hid hown2
  have HC:=Lib.hid hcut
  have NE:=Lib.hid hne2
  have hle:L.length≤(ones (L.length+1)).size:=by omega
  clear hb1 hb2 hown2 hown1 hown hB hb d1 hos hcut hi1
  go_wp2
  go_region
  all_goals go_wp2
  all_goals go_ret2
  refine ⟨rfl,[b,g],⟨.slice (some ⟨g,0,none⟩) L.length cap,?_,?_,by omega,rfl⟩,?_,?_⟩
  · rw [HC.out]
    refine Blk.drew ?_
    simpa using (hB2.set 0 (.slice (some ⟨g,0,none⟩) L.length cap)).set 1 (.string (ones L.length))
  · have h3:=own_cut O2.out L.length (by omega)
    simp at h3
    exact ((((Keeps.refl [b] w2).set (by simp) _).set (by simp) _).drew).own h3 (by intro k hk; injection hk with hk; subst hk; simpa using NE.out)
  · rw [HF.out]
    exact ((((Keeps.of_below H1.out _).next H2.out).set (by simp) _).set (by simp) _).drew
  · intro i hi; left; rw [HF.out]; simpa [Value.ownBlock] using hi
theorem grey_Over (b:Nat) (L:List Int) (ov:Bool) (F:List Nat) (w:World) (hG:GreyAt w b L ov F) :
    Calls Tryz.prog 223 #[.pointer (some ⟨b,0,none⟩)] w fun e w'=>e=.returned (.bool ov)∧w=w':=by
  obtain ⟨lv,hb,hown,hl,hF⟩:=hG
  have c2:=hb.cell 2
  simp at c2
  clear hF hl hown
  go_enter Tryz.func223,Tryz.ntmps223
  go_wp2
  go_ret
  exact ⟨rfl,rfl⟩
theorem grey_Settle (b:Nat) (L:List Int) (ov:Bool) (F:List Nat) (w:World) (hG:GreyAt w b L ov F) :
    Calls Tryz.prog 224 #[.pointer (some ⟨b,0,none⟩)] w (GreyDoes (.returned (.tuple #[])) b L false F w):=by
  obtain ⟨lv,hb,hown,hl,hF⟩:=hG
  have c2:=hb.cell 2
  have f2:=hb.free 2
  have hne:=own_type hown hb (by decide)
  simp at c2
  have HF:=Lib.hid hF
  have NE:=Lib.hid hne
  have O:=Lib.hid hown
  clear hF hown hne
  go_enter Tryz.func224,Tryz.ntmps224
  go_wp2
  go_end0
  refine ⟨rfl,b::lv.ownBlock.toList,⟨lv,?_,?_,hl,rfl⟩,?_,?_⟩
  · simpa using hb.set 2 (.bool false)
  · exact ((Keeps.refl [b] w).set (p:=⟨b,2,none⟩) (by simp) _).own O.out (fun k hk=>by simpa using NE.out k hk)
  · exact (Keeps.refl F w).set (by rw [HF.out]; simp) _
  · intro i hi; left; rw [HF.out]; exact hi
theorem grey_Len_nil (w:World):Calls Tryz.prog 221 #[.pointer none] w fun e w'=>e=.returned (.int .i64 0)∧w=w':=by
  go_enter Tryz.func221,Tryz.ntmps221
  go_wp2
  go_ret
  exact ⟨rfl,rfl⟩
theorem grey_Push_nil (a:Int) (w:World):Calls Tryz.prog 186 #[.pointer none,.int .i64 a] w fun e w'=>e=.returned (.bool false)∧w=w':=by
  go_enter Tryz.func186,Tryz.ntmps186
  go_wp2
  go_ret
  exact ⟨rfl,rfl⟩
theorem grey_Pop_nil (w:World):Calls Tryz.prog 222 #[.pointer none] w fun e w'=>e=.returned (.tuple #[.int .i64 0,.bool false])∧w=w':=by
  go_enter Tryz.func222,Tryz.ntmps222
  go_wp2_with (go_at_call 221; refine (grey_Len_nil _).mono ?_; rintro e w' ⟨rfl,rfl⟩)
  go_ret2
  exact ⟨rfl,rfl⟩
theorem grey_Over_nil (w:World):Calls Tryz.prog 223 #[.pointer none] w fun e w'=>e=.returned (.bool false)∧w=w':=by
  go_enter Tryz.func223,Tryz.ntmps223
  go_wp2
  go_ret
  exact ⟨rfl,rfl⟩
theorem grey_Settle_nil (w:World):Calls Tryz.prog 224 #[.pointer none] w fun e w'=>e=.returned (.tuple #[])∧w=w':=by
  go_enter Tryz.func224,Tryz.ntmps224
  go_wp2
  go_end0
  exact ⟨rfl,rfl⟩
end Go.Proofs.YtffnjpapggidlaaGreat
namespace Go.Proofs.YtffnjpapggidlaaGreat
open Go.RowKit
def RListAt (w:World) (b:Nat) (L:List Int) (ov:Bool) (F:List Nat):Prop :=
  ∃ lv,Blk w b 178 #[lv,.bool ov]∧w.ownsRow 0 3 1 lv L.length (L.map (.int .i64))∧L.length≤8∧F=b::lv.ownBlock.toList
theorem RListAt.keep {w w':World} {b:Nat} {L:List Int} {ov:Bool} {F G:List Nat} (h:RListAt w b L ov F) (k:Keeps G w w') (hd:∀ i ∈ F,i ∉ G):RListAt w' b L ov F:=by
  obtain ⟨lv,h1,h2,h3,rfl⟩:=h
  exact ⟨lv,k.blk h1 (hd _ (by simp)),k.own h2 (fun g hg=>hd _ (by simp [hg])),h3,rfl⟩
theorem RListAt.lt {w:World} {b:Nat} {L:List Int} {ov:Bool} {F:List Nat} (h:RListAt w b L ov F):∀ i ∈ F,i<w.heap.size:=by
  obtain ⟨lv,h1,h2,h3,rfl⟩:=h
  intro i hi
  simp at hi
  rcases hi with rfl | hi
  · exact h1.lt
  · exact own_lt h2 i hi
def RListDoes (r:Ending) (b:Nat) (L':List Int) (ov':Bool) (F:List Nat) (w:World) (e:Ending) (w':World):Prop :=
  e=r∧∃ F',RListAt w' b L' ov' F'∧Keeps F w w'∧∀ i ∈ F',i ∈ F ∨ w.heap.size≤i
theorem run_append_nil_nil (w:World) (ty:TypeId):(Builtin.append_ #[47,47] ty #[.slice none 0 0,.slice none 0 0]).run Tryz.prog w=.ok (.slice none 0 0) w:=by kernel_rfl
theorem news_of_own {w:World} {B e:Nat} {g cap n:Nat} {xs:List Value} (h:w.ownsRow B e 1 (.slice (some ⟨g,0,none⟩) n cap) n xs):∀ j u,xs[j]?=some u→w.cell? ((⟨g,0,none⟩:Addr).add j)=some u:=h.cells rfl
set_option maxRecDepth 100000 in
set_option maxHeartbeats 1000000 in
theorem rlist_Push (b:Nat) (L:List Int) (ov:Bool) (F:List Nat) (a:Int) (w:World) (hG:RListAt w b L ov F) (hlt:L.length<8) :
    Calls Tryz.prog 187 #[.pointer (some ⟨b,0,none⟩),.int .i64 a] w (RListDoes (.returned (.bool true)) b (L ++ [a]) ov F w):=by
  obtain ⟨lv,hb,hown,hl,hF⟩:=hG
  obtain ⟨i0,hi,hz0,hz1,hz2⟩:=info_parts info_int
  have c0:=hb.cell 0
  have f0:=hb.free 0
  simp at c0
  have HF:=Lib.hid hF
  clear hF
  rcases own_cases hown with ⟨rfl,hn⟩ | ⟨g,cap,hv,hnc,hcm,hg⟩
  · have hL:L=[]:=List.eq_nil_of_length_eq_zero hn
    subst hL
    have h0:=fun ty=>run_append_nil_nil w ty
    clear hn hlt
    go_enter Tryz.func187,Tryz.ntmps187
    go_wp2_with (at_builtin; refine wpList_append_own_at _ rfl (.tmp 19) (.tmp 21) 47 rfl 0 3 i0 (.int .i64 0) 1 8 Tryz.underlying47 hi hz0 hz1 hz2 rfl (by decide) _ 0 [] rfl (World.ownsRow_nil _ _ _ _) ⟨w.heap.size,0,none⟩ 1 1 [.int .i64 a] rfl rfl (cell_one_new _ _ _) ?c2 ?c3 ?c4 ?c5 ?_)
    case c2=>first | rfl | (intro u hu; simp at hu; subst hu; rfl)
    case c3=>unfold maxLen; omega
    case c4=>omega
    case c5=>omega
    intro v' w2 hown2 hg2 _ hat
    obtain ⟨g,cap,hv,-⟩:=own_form hown2 (by omega)
    subst hv
    have hsz:=hg2.size
    simp at hsz
    have hlt1:=hb.lt
    have hB2:Blk w2 b 178 #[.slice none 0 0,.bool ov]:=(hb.alloc _).of_eq (hg2.block b (by simp; omega) (by intro e; cases e))
    have e0:=hB2.cell 0
    have g0:=hB2.free 0
    simp at e0
    have hk:Keeps [b] w w2:=((Keeps.refl _ _).alloc _).grown hg2 (by intro k hk; cases hk)
    have hne2:g≠b:=own_type hown2 hB2 (by decide) g rfl
    have hat':w.heap.size≤g:=by
      rcases hat with h | h
      · cases h
      · injection h with hg; (try simp at hg); omega
    have HK:=Lib.hid hk
    have NE:=Lib.hid hne2
    have O2:=Lib.hid hown2
    clear hat hne2 hk hg2 hown2 hb hown h0
    go_wp2
    go_ret
    refine ⟨rfl,[b,g],⟨.slice (some ⟨g,0,none⟩) 1 cap,?_,?_,by simp,rfl⟩,?_,?_⟩
    · simpa using hB2.set 0 (.slice (some ⟨g,0,none⟩) 1 cap)
    · have h3:=((Keeps.refl [b] w2).set (p:=⟨b,0,none⟩) (by simp) (.slice (some ⟨g,0,none⟩) 1 cap)).own O2.out (by intro k hk; injection hk with hk; subst hk; simpa using NE.out)
      simpa using h3
    · rw [HF.out]; exact HK.out.set (by simp) _
    · intro i hi
      rw [HF.out]
      simp at hi ⊢
      rcases hi with rfl | rfl
      · exact .inl (.inl rfl)
      · exact .inr hat'
  · subst hv
    have hne:=own_type hown hb (by decide) g rfl
    go_enter Tryz.func187,Tryz.ntmps187
    go_wp2_with (at_builtin; refine wpList_append_own_at _ rfl (.const (.slice none 0 0)) (.tmp 18) 47 rfl 0 3 i0 (.int .i64 0) 1 8 Tryz.underlying47 hi hz0 hz1 hz2 rfl (by decide) _ 0 [] rfl (World.ownsRow_nil _ _ _ _) ⟨g,0,none⟩ L.length cap (L.map (.int .i64)) rfl ?c1 (news_of_own hown) ?c2 ?c3 ?c4 ?c5 ?_)
    case c1=>simp
    case c2=>first | rfl | (intro u hu; simp at hu; obtain ⟨x,_,rfl⟩:=hu; rfl)
    case c3=>unfold maxLen; omega
    case c4=>omega
    case c5=>omega
    intro v' w1 hown1 hg1 _ hat1
    have hk1:Keeps [] w w1:=(Keeps.refl _ _).grown hg1 (by intro k hk; cases hk)
    have hb1:=hk1.blk hb (by simp)
    have e0:=hb1.cell 0
    have g0:=hb1.free 0
    simp at e0
    have hat1':∀ k,v'.ownBlock=some k→w.heap.size≤k:=by
      intro k hk
      rcases hat1 with h | h
      · rw [h] at hk; cases hk
      · rw [h] at hk; injection hk with hk; omega
    try simp only [Nat.zero_add,List.nil_append] at hown1
    have K1:=Lib.hid hk1
    have hsz1:=hk1.size
    clear hk1 hg1 hat1 hown hb c0 f0
    go_wp2_with (at_builtin; refine wpList_append_own_at _ rfl (.tmp 19) (.tmp 21) 47 rfl 0 3 i0 (.int .i64 0) 1 8 Tryz.underlying47 hi hz0 hz1 hz2 rfl (by decide) _ L.length (L.map (.int .i64)) rfl (hown1.alloc _) ⟨w1.heap.size,0,none⟩ 1 1 [.int .i64 a] rfl rfl (cell_one_new _ _ _) ?c2 ?c3 ?c4 ?c5 ?_)
    case c2=>first | rfl | (intro u hu; simp at hu; subst hu; rfl)
    case c3=>unfold maxLen; omega
    case c4=>omega
    case c5=>omega
    intro v2 w2 hown2 hg2 _ hat
    obtain ⟨g2,cap2,hv,-⟩:=own_form hown2 (by omega)
    subst hv
    have hsz:=hg2.size
    simp at hsz
    have hlt1:=hb1.lt
    have hne1:=own_type hown1 hb1 (by decide)
    have hB2:Blk w2 b 178 #[.slice (some ⟨g,0,none⟩) L.length cap,.bool ov]:=(hb1.alloc _).of_eq (hg2.block b (by simp; omega) (by intro e; exact hne1 b e.symm rfl))
    have e1:=hB2.cell 0
    have g1:=hB2.free 0
    simp at e1
    have hk:Keeps [b] w w2:=((K1.out.mono (by simp)).alloc _).grown hg2 (by intro k hk; exact .inr (hat1' k hk))
    have hne2:g2≠b:=own_type hown2 hB2 (by decide) g2 rfl
    have hat':w.heap.size≤g2:=by
      rcases hat with h | h
      · exact hat1' _ h.symm
      · injection h with hg; (try simp at hg); omega
    have HK:=Lib.hid hk
    have NE:=Lib.hid hne2
    have O2:=Lib.hid hown2
    clear hat hne2 hk hg2 hown2 hb1 hown1 e0 g0 hne1
    go_wp2
    go_ret
    refine ⟨rfl,[b,g2],⟨.slice (some ⟨g2,0,none⟩) (L.length+1) cap2,?_,?_,by simp; omega,rfl⟩,?_,?_⟩
    · simpa using hB2.set 0 (.slice (some ⟨g2,0,none⟩) (L.length+1) cap2)
    · have h3:=((Keeps.refl [b] w2).set (p:=⟨b,0,none⟩) (by simp) (.slice (some ⟨g2,0,none⟩) (L.length+1) cap2)).own O2.out (by intro k hk; injection hk with hk; subst hk; simpa using NE.out)
      simpa using h3
    · rw [HF.out]; exact (HK.out.mono (by simp)).set (by simp) _
    · intro i hi
      rw [HF.out]
      simp at hi ⊢
      rcases hi with rfl | rfl
      · exact .inl (.inl rfl)
      · exact .inr hat'
set_option maxRecDepth 100000 in
theorem rlist_Push_full (b:Nat) (L:List Int) (ov:Bool) (F:List Nat) (a:Int) (w:World) (hG:RListAt w b L ov F) (hlt:L.length=8) :
    Calls Tryz.prog 187 #[.pointer (some ⟨b,0,none⟩),.int .i64 a] w (RListDoes (.returned (.bool false)) b L true F w):=by
  obtain ⟨lv,hb,hown,hl,hF⟩:=hG
  have c0:=hb.cell 0
  have c1:=hb.cell 1
  have f1:=hb.free 1
  have hne:=own_type hown hb (by decide)
  simp at c0 c1
  have HF:=Lib.hid hF
  have NE:=Lib.hid hne
  have h8:8≤L.length:=by omega
  obtain ⟨p,cap,hv⟩:∃ p cap,lv=.slice p L.length cap:=by
    rcases own_cases hown with ⟨rfl,hn⟩ | ⟨g,cap,hv,_⟩
    · rw [hn]; exact ⟨_,_,rfl⟩
    · exact ⟨_,_,hv⟩
  subst hv
  have O:=Lib.hid hown
  clear hF hlt hne hown
  go_enter Tryz.func187,Tryz.ntmps187
  go_wp2
  go_ret
  refine ⟨rfl,F,⟨.slice p L.length cap,?_,?_,hl,HF.out⟩,?_,fun i hi=>.inl hi⟩
  · simpa using hb.set 1 (.bool true)
  · exact ((Keeps.refl [b] w).set (p:=⟨b,1,none⟩) (by simp) _).own O.out (fun k hk=>by simpa using NE.out k hk)
  · exact (Keeps.refl F w).set (by rw [HF.out]; simp) _
set_option maxRecDepth 100000 in
theorem rlist_Pop_none (b:Nat) (ov:Bool) (F:List Nat) (w:World) (hG:RListAt w b [] ov F) :
    Calls Tryz.prog 228 #[.pointer (some ⟨b,0,none⟩)] w (RListDoes (.returned (.tuple #[.int .i64 0,.bool false])) b [] ov F w):=by
  have G:=Lib.hid hG
  obtain ⟨lv,hb,hown,hl,hF⟩:=hG
  have c0:=hb.cell 0
  simp at c0
  obtain ⟨p,cap,hv⟩:∃ p cap,lv=.slice p 0 cap:=by
    rcases own_cases hown with ⟨rfl,hn⟩ | ⟨g,cap,hv,_⟩
    · exact ⟨_,_,rfl⟩
    · exact ⟨_,_,hv⟩
  subst hv
  clear hF hl hown
  go_enter Tryz.func228,Tryz.ntmps228
  go_wp2
  go_ret2
  exact ⟨rfl,F,G.out,Keeps.refl _ _,fun i hi=>.inl hi⟩
set_option maxRecDepth 100000 in
set_option maxHeartbeats 1000000 in
theorem rlist_Pop (b:Nat) (L:List Int) (x:Int) (ov:Bool) (F:List Nat) (w:World) (hG:RListAt w b (L ++ [x]) ov F) :
    Calls Tryz.prog 228 #[.pointer (some ⟨b,0,none⟩)] w (RListDoes (.returned (.tuple #[.int .i64 x,.bool true])) b L ov F w):=by
  obtain ⟨lv,hb,hown,hl,hF⟩:=hG
  obtain ⟨i0,hi,hz0,hz1,hz2⟩:=info_parts info_int
  obtain ⟨g,cap,hv,hnc,hcm,hg⟩:=own_form hown (by simp)
  subst hv
  have hcut:=own_cut hown L.length (by simp)
  have e2:=own_cell hown rfl L.length (by simp)
  simp only [List.length_append,List.length_cons,List.length_nil,Nat.zero_add] at *
  have c0:=hb.cell 0
  have f0:=hb.free 0
  have hne:=own_type hown hb (by decide) g rfl
  simp at c0 e2 hcut
  have HF:=Lib.hid hF
  unfold maxLen at hcm
  clear hF hown
  go_enter Tryz.func228,Tryz.ntmps228
  go_wp2_with (at_builtin; refine wpList_append_own_at _ rfl (.const (.slice none 0 0)) (.tmp 27) 47 rfl 0 3 i0 (.int .i64 0) 1 8 Tryz.underlying47 hi hz0 hz1 hz2 rfl (by decide) _ 0 [] rfl (World.ownsRow_nil _ _ _ _) ⟨g,0,none⟩ L.length cap (L.map (.int .i64)) rfl ?c1 (news_of_own hcut) ?c2 ?c3 ?c4 ?c5 ?_)
  case c1=>simp
  case c2=>first | rfl | (intro u hu; simp at hu; obtain ⟨x,_,rfl⟩:=hu; rfl)
  case c3=>unfold maxLen; omega
  case c4=>omega
  case c5=>omega
  intro v' w1 hown1 hg1 _ hat1
  try simp only [Nat.zero_add,List.nil_append] at hown1
  obtain ⟨p',cap',hv,hpb⟩:∃ p cap,v'=.slice p L.length cap∧∀ k,(Value.slice p L.length cap).ownBlock=some k→w.heap.size≤k:=by
    have hb:∀ k,v'.ownBlock=some k→w.heap.size≤k:=by
      intro k hk
      rcases hat1 with h | h
      · rw [h] at hk; cases hk
      · rw [h] at hk; injection hk with hk; omega
    rcases own_cases hown1 with ⟨rfl,hn⟩ | ⟨g,cap,hv,_⟩
    · rw [hn]; exact ⟨_,_,rfl,hb⟩
    · subst hv; exact ⟨_,_,rfl,hb⟩
  subst hv
  have hk1:Keeps [] w w1:=(Keeps.refl _ _).grown hg1 (by intro k hk; cases hk)
  have hb1:=hk1.blk hb (by simp)
  have e0:=hb1.cell 0
  have g0:=hb1.free 0
  have hne1:=own_type hown1 hb1 (by decide)
  simp at e0
  have K1:=Lib.hid hk1
  have NE:=Lib.hid hne1
  have O1:=Lib.hid hown1
  have PB:=Lib.hid hpb
  clear hk1 hg1 hat1 hb c0 f0 hown1 hne1 hpb hcut
  go_wp2
  go_ret2
  refine ⟨rfl,b::(Value.slice p' L.length cap').ownBlock.toList,⟨.slice p' L.length cap',?_,?_,by omega,rfl⟩,?_,?_⟩
  · simpa using hb1.set 0 (.slice p' L.length cap')
  · exact ((Keeps.refl [b] w1).set (p:=⟨b,0,none⟩) (by simp) _).own O1.out (fun k hk=>by simpa using NE.out k hk)
  · rw [HF.out]; exact (K1.out.mono (by simp)).set (by simp) _
  · intro i hi
    rw [HF.out]
    rcases List.mem_cons.1 hi with rfl | h
    · exact .inl (by simp)
    · exact .inr (PB.out i (by simpa using h))
end Go.Proofs.YtffnjpapggidlaaGreat
