/- RHeap3 -/
import Derived.Test.YtffnjpapggidlaaGreatKRHeap
import Derived.Test.YtffnjpapggidlaaGreatKSepHeap
namespace Go.Proofs.YtffnjpapggidlaaGreat
open Go.RowKit
set_option linter.unusedVariables false
def cz (f:Int→Int) (j:Nat):Int→Int:=fun x=>if 0≤x∧x<j then 0 else f x
theorem cols_ext {f g:Int→Int} {n:Nat} (h:∀ i:Nat,i<n→f i=g i):cols f n=cols g n:=by
  unfold cols
  apply List.map_congr_left
  intro i hi
  exact h i (List.mem_range.1 hi)
theorem cz_zero (f:Int→Int) (n:Nat):cols (cz f 0) n=cols f n:=cols_ext fun i _=>by unfold cz; rw [if_neg (by omega)]
theorem cz_all (f:Int→Int) (n:Nat):cols (cz f n) n=cols (fun _=>0) n:=cols_ext fun i hi=>by unfold cz; rw [if_pos (by omega)]
theorem cz_set (f:Int→Int) (n j:Nat):(cols (cz f j) n).set j 0=cols (cz f (j+1)) n:=by
  rw [cols_set]
  apply cols_ext
  intro i _
  unfold upd cz
  by_cases e:(i:Int)=j
  · rw [if_pos e,if_pos (by omega)]
  · rw [if_neg e]
    by_cases h:i<j
    · rw [if_pos (by omega),if_pos (by omega)]
    · rw [if_neg (by omega),if_neg (by omega)]
section
variable {w0 w:World} {F0:List Nat} {ps:List Piece} {b ab sb g cb gl n:Nat} {h:HSt}
theorem St.newX (hs:St w0 F0 ps w) (cs:Array Value) (t:TypeId):∃ tb,w.heap.size=tb∧St w0 F0 (BlkP tb t cs::ps) (w.alloc (.cells cs t)):=⟨_,rfl,hs.new cs t⟩
theorem St.newList {W:World} {qs:List Piece} {gl:Nat} (hq:St w0 F0 (BlkP gl 178 #[.slice none 0 0,.bool false]::qs) W):St w0 F0 (RListP gl [] false::qs) W:=by
  refine hq.step1 ?_
  rintro F ⟨hb,rfl⟩
  exact ⟨[gl],⟨.slice none 0 0,hb,World.ownsRow_nil _ _ _ _,by simp,rfl⟩,Keeps.refl _ _,by simp⟩
set_option maxHeartbeats 2000000 in
theorem rh_BeginR {R:Piece} {v:Value} {L:List Int} (hR:Sees R v L) (hs:St w0 F0 (RHeapP b ab sb g cb h::R::ps) w) :
    Calls Tryz.prog 58 #[.pointer (some ⟨b,0,none⟩),v] w fun e w'=>e=.returned (.int .i64 (hBeginE h))∧St w0 F0 (RHeapP b ab sb g cb (hBegin L h)::R::ps) w':=by
  obtain ⟨hlm,p,c,rfl,hp⟩:=hR.shape hs 1 rfl
  unfold maxLen at hlm
  have HP:=Lib.hid hp
  have HR:=Lib.hid hR
  obtain ⟨ok,gl,h1⟩:=hs.openRH
  obtain ⟨c0,c1,c2,c3,-,-⟩:=h1.rhcell (k:=0) rfl
  clear hp hR c0 c2
  unfold hBegin hBeginE
  by_cases h0:h.ph=0
  · rw [if_pos h0,if_pos h0]
    rw [h0] at c3
    have okc:=ok.clear h0
    obtain ⟨n,hn⟩:∃ n,h.a.c.length=n:=⟨_,rfl⟩
    have n4:n≤4096:=by have:=ok.a.len; have:=ok.len; omega
    have HN:=Lib.hid hn
    rw [hn] at h1
    rw [← cz_zero] at h1
    clear h0 ok hs c1 hn
    go_enter Tryz.func58,Tryz.ntmps58
    go_wp2
    clear c3
    go_loopw [5] (fun iv wr=>∃ j:Nat,j≤n∧iv=.int .i64 j∧St w0 F0 (rheapB b ab cb gl n h::RArenaP ab sb g h.a::BlkP cb 3 (iA (cols (cz h.col j) n))::RListP gl h.g h.ov::R::ps) wr) (fun iv _=>n - (intOf iv).toNat)
    case atStart=>exact ⟨0,by omega,rfl,h1⟩
    case round =>
      obtain ⟨j,hj,rfl,h2⟩:=hrel
      clear h1
      have d1:=(h2.rhcell (k:=0) rfl).2.1
      by_cases hlt:j<n
      · have cc:=h2.cell 2 rfl j (iA_at _ j (cols_at _ _ j hlt))
        have ff:=h2.free 2 rfl j
        have h3:=h2.pick2.set j (.int .i64 0)
        rw [iA_set,cz_set] at h3
        have i0:(0:Int)≤j:=by omega
        have i1:(j:Int)<n:=by omega
        clear h2
        go_wp2
        go_roundw
        case rel=>exact ⟨j+1,by omega,by go_num,h3.back2⟩
        case measure=>simp [intOf]; omega
      · have hjn:j=n:=by omega
        subst hjn
        rw [cz_all] at h2
        obtain ⟨tb,htb,h3⟩:=h2.newX #[.slice none 0 0,.bool false] 178
        have e2:=h3.cell 1 rfl 2 rfl
        have e3:=h3.cell 1 rfl 3 rfl
        have f2:=h3.free 1 rfl 2
        have f3:=h3.free 1 rfl 3
        clear h2
        go_wp2
        have h4:=(h3.pick1.set 2 (.pointer (some ⟨tb,0,none⟩))).set 3 (.int .i64 1)
        have h5:=(St.newList h4.pick4.drop.pick1).pick3.pick3.pick3
        rw [← HN.out] at h5
        have h6:St w0 F0 (RHeapP b ab sb g cb { h with col:=fun _=>0,g:=[],ov:=false,ph:=1 }::R::ps) _:=St.closeRH (gl:=tb) (h:={ h with col:=fun _=>0,g:=[],ov:=false,ph:=1 }) h5 okc
        clear h3 h4 h5 e2 e3 f2 f3 d1
        obtain ⟨hc,hhc⟩:∃ hc:HSt,({ h with col:=fun _=>0,g:=[],ov:=false,ph:=1 }:HSt)=hc:=⟨_,rfl⟩
        rw [hhc] at h6
        have HH:=Lib.hid hhc
        clear hhc
        go_loopw [6] (fun iv wr=>∃ k:Nat,k≤L.length∧iv=.int .i64 k∧St w0 F0 (RHeapP b ab sb g cb (hShades (L.take k) hc)::R::ps) wr) (fun iv _=>L.length - (intOf iv).toNat)
        case atStart=>exact ⟨0,by omega,rfl,h6⟩
        case round =>
          obtain ⟨k,hk,rfl,h7⟩:=hrel
          clear h6
          by_cases hlt:k<L.length
          · obtain ⟨g,rfl⟩:=HP.out.resolve_left (by omega)
            have cc:=HR.out.num h7 1 rfl k hlt
            have HS:=Lib.hid (show hShades (L.take (k+1)) hc=hShade L[k] (hShades (L.take k) hc) by rw [List.take_succ_eq_append_getElem hlt,shades_snoc])
            have i0:(0:Int)≤k:=by omega
            have i1:(k:Int)<L.length:=by omega
            generalize L[k]=x at *
            go_wp2_with fail
            refine (rh_Shade h7 x).mono ?_
            rintro e w3 ⟨rfl,h8⟩
            clear h7 cc
            go_wp2
            go_roundw
            case rel=>exact ⟨k+1,by omega,by go_num,by rw [HS.out]; exact h8⟩
            case measure=>simp [intOf]; omega
          · have hkl:k=L.length:=by omega
            subst hkl
            go_wp2
            go_ret
            rw [List.take_length,← HH.out] at h7
            exact ⟨rfl,h7⟩
  · rw [if_neg h0,if_neg h0]
    have e1:(h.ph == 0)=false:=by simpa using h0
    have e2:(h.ph != 0)=true:=by simp [bne,e1]
    clear h0 h1 ok
    go_enter Tryz.func58,Tryz.ntmps58
    go_wp2
    go_ret
    exact ⟨rfl,hs⟩
end
end Go.Proofs.YtffnjpapggidlaaGreat
