/- View3 View4 -/
import Derived.Test.YtffnjpapggidlaaGreatKView
namespace Go.Proofs.YtffnjpapggidlaaGreat
open Go.RowKit
set_option linter.unusedVariables false
set_option linter.unusedSimpArgs false
def putE (s:ASt) (p kind:Int) (n:Nat):Int:=if Is s p kind n then 0 else 10
section
variable {w0 w:World} {F0:List Nat} {ps:List Piece} {b ab:Nat} {h:HSt}
theorem v_putE {kind:Int} {n:Nat} (hn:rNeed kind 0=n) (n0:0<n) (n10:n≤10) {l:List Int} (hl:l.length=n) (hw:∀ x ∈ l,Wd x) {v:Value} (hs:St w0 F0 (RowP v l::HeapP b ab h::ps) w) (p:Int) :
    Calls Tryz.prog 105 #[.pointer (some ⟨b,0,none⟩),.int .i64 p,.int .i64 kind,v] w fun e w'=>e=.returned (.int .i64 (putE h.a p kind n))∧St w0 F0 (HeapP b ab (hPut p kind n l h)::ps) w':=by
  unfold putE
  by_cases hp:Is h.a p kind n
  · rw [if_pos hp]; exact v_put hn n0 n10 hl hw hs hp
  · rw [if_neg hp]; exact v_put_no hn hs hp
theorem value_IntV (a:Int) (w:World):Calls Tryz.prog 106 #[.int .i64 a] w fun e w'=>e=.returned (.int .i64 (vI a))∧w=w':=value_Int a w
set_option maxRecDepth 100000 in
set_option maxHeartbeats 4000000 in
theorem v_PutChan (hs:St w0 F0 (HeapP b ab h::ps) w) (p:Int) (c:Ch) :
    Calls Tryz.prog 16 #[.pointer (some ⟨b,0,none⟩),.int .i64 p,chV c] w fun e w'=>e=.returned (.int .i64 (putE h.a p 1 9))∧St w0 F0 (HeapP b ab (hPut p 1 9 (chW c) h)::ps) w':=by
  unfold chV
  obtain ⟨tb,htb⟩:∃ tb,w.heap.size=tb:=⟨_,rfl⟩
  have h0:=hs.new #[.int .i64 c.cap,.int .i64 c.closed,.int .i64 c.count,.int .i64 c.start,.int .i64 c.buf,.int .i64 c.th,.int .i64 c.tt,.int .i64 c.sh,.int .i64 c.st] 23
  rw [htb] at h0
  have hl:St w0 F0 (RowP (.slice (some ⟨tb+1,0,none⟩) 9 9) (chW c)::HeapP b ab h::BlkP tb 23 #[.int .i64 c.cap,.int .i64 c.closed,.int .i64 c.count,.int .i64 c.start,.int .i64 c.buf,.int .i64 c.th,.int .i64 c.tt,.int .i64 c.sh,.int .i64 c.st]::ps) ((w.alloc (.cells #[.int .i64 c.cap,.int .i64 c.closed,.int .i64 c.count,.int .i64 c.start,.int .i64 c.buf,.int .i64 c.th,.int .i64 c.tt,.int .i64 c.sh,.int .i64 c.st] 23)).alloc (.cells #[.int .i64 (vI c.cap),.int .i64 (vI c.closed),.int .i64 (vI c.count),.int .i64 (vI c.start),.int .i64 (vP c.buf),.int .i64 (vP c.th),.int .i64 (vP c.tt),.int .i64 (vP c.sh),.int .i64 (vP c.st)] 3)).drew:=by
    have:=(h0.pick1.lit (chW c) (by unfold maxLen; simp [chW])).drew
    rw [show (w.alloc (.cells #[.int .i64 c.cap,.int .i64 c.closed,.int .i64 c.count,.int .i64 c.start,.int .i64 c.buf,.int .i64 c.th,.int .i64 c.tt,.int .i64 c.sh,.int .i64 c.st] 23)).heap.size=tb+1 by simp [htb]] at this
    exact this
  have d0:(w.alloc (.cells #[.int .i64 c.cap,.int .i64 c.closed,.int .i64 c.count,.int .i64 c.start,.int .i64 c.buf,.int .i64 c.th,.int .i64 c.tt,.int .i64 c.sh,.int .i64 c.st] 23)).cell? ⟨tb,0,none⟩=some (.int .i64 c.cap):=h0.cell 0 rfl 0 rfl
  have d1:(w.alloc (.cells #[.int .i64 c.cap,.int .i64 c.closed,.int .i64 c.count,.int .i64 c.start,.int .i64 c.buf,.int .i64 c.th,.int .i64 c.tt,.int .i64 c.sh,.int .i64 c.st] 23)).cell? ⟨tb,1,none⟩=some (.int .i64 c.closed):=h0.cell 0 rfl 1 rfl
  have d2:(w.alloc (.cells #[.int .i64 c.cap,.int .i64 c.closed,.int .i64 c.count,.int .i64 c.start,.int .i64 c.buf,.int .i64 c.th,.int .i64 c.tt,.int .i64 c.sh,.int .i64 c.st] 23)).cell? ⟨tb,2,none⟩=some (.int .i64 c.count):=h0.cell 0 rfl 2 rfl
  have d3:(w.alloc (.cells #[.int .i64 c.cap,.int .i64 c.closed,.int .i64 c.count,.int .i64 c.start,.int .i64 c.buf,.int .i64 c.th,.int .i64 c.tt,.int .i64 c.sh,.int .i64 c.st] 23)).cell? ⟨tb,3,none⟩=some (.int .i64 c.start):=h0.cell 0 rfl 3 rfl
  have d4:(w.alloc (.cells #[.int .i64 c.cap,.int .i64 c.closed,.int .i64 c.count,.int .i64 c.start,.int .i64 c.buf,.int .i64 c.th,.int .i64 c.tt,.int .i64 c.sh,.int .i64 c.st] 23)).cell? ⟨tb,4,none⟩=some (.int .i64 c.buf):=h0.cell 0 rfl 4 rfl
  have d5:(w.alloc (.cells #[.int .i64 c.cap,.int .i64 c.closed,.int .i64 c.count,.int .i64 c.start,.int .i64 c.buf,.int .i64 c.th,.int .i64 c.tt,.int .i64 c.sh,.int .i64 c.st] 23)).cell? ⟨tb,5,none⟩=some (.int .i64 c.th):=h0.cell 0 rfl 5 rfl
  have d6:(w.alloc (.cells #[.int .i64 c.cap,.int .i64 c.closed,.int .i64 c.count,.int .i64 c.start,.int .i64 c.buf,.int .i64 c.th,.int .i64 c.tt,.int .i64 c.sh,.int .i64 c.st] 23)).cell? ⟨tb,6,none⟩=some (.int .i64 c.tt):=h0.cell 0 rfl 6 rfl
  have d7:(w.alloc (.cells #[.int .i64 c.cap,.int .i64 c.closed,.int .i64 c.count,.int .i64 c.start,.int .i64 c.buf,.int .i64 c.th,.int .i64 c.tt,.int .i64 c.sh,.int .i64 c.st] 23)).cell? ⟨tb,7,none⟩=some (.int .i64 c.sh):=h0.cell 0 rfl 7 rfl
  have d8:(w.alloc (.cells #[.int .i64 c.cap,.int .i64 c.closed,.int .i64 c.count,.int .i64 c.start,.int .i64 c.buf,.int .i64 c.th,.int .i64 c.tt,.int .i64 c.sh,.int .i64 c.st] 23)).cell? ⟨tb,8,none⟩=some (.int .i64 c.st):=h0.cell 0 rfl 8 rfl
  have k0:((w.alloc (.cells #[.int .i64 c.cap,.int .i64 c.closed,.int .i64 c.count,.int .i64 c.start,.int .i64 c.buf,.int .i64 c.th,.int .i64 c.tt,.int .i64 c.sh,.int .i64 c.st] 23)).alloc (.cells #[.int .i64 (vI c.cap),.int .i64 (vI c.closed),.int .i64 (vI c.count),.int .i64 (vI c.start),.int .i64 (vP c.buf),.int .i64 (vP c.th),.int .i64 (vP c.tt),.int .i64 (vP c.sh),.int .i64 (vP c.st)] 3)).drew.cell? ⟨tb,0,none⟩=some (.int .i64 c.cap):=hl.cell 2 rfl 0 rfl
  have k1:((w.alloc (.cells #[.int .i64 c.cap,.int .i64 c.closed,.int .i64 c.count,.int .i64 c.start,.int .i64 c.buf,.int .i64 c.th,.int .i64 c.tt,.int .i64 c.sh,.int .i64 c.st] 23)).alloc (.cells #[.int .i64 (vI c.cap),.int .i64 (vI c.closed),.int .i64 (vI c.count),.int .i64 (vI c.start),.int .i64 (vP c.buf),.int .i64 (vP c.th),.int .i64 (vP c.tt),.int .i64 (vP c.sh),.int .i64 (vP c.st)] 3)).drew.cell? ⟨tb,1,none⟩=some (.int .i64 c.closed):=hl.cell 2 rfl 1 rfl
  have k2:((w.alloc (.cells #[.int .i64 c.cap,.int .i64 c.closed,.int .i64 c.count,.int .i64 c.start,.int .i64 c.buf,.int .i64 c.th,.int .i64 c.tt,.int .i64 c.sh,.int .i64 c.st] 23)).alloc (.cells #[.int .i64 (vI c.cap),.int .i64 (vI c.closed),.int .i64 (vI c.count),.int .i64 (vI c.start),.int .i64 (vP c.buf),.int .i64 (vP c.th),.int .i64 (vP c.tt),.int .i64 (vP c.sh),.int .i64 (vP c.st)] 3)).drew.cell? ⟨tb,2,none⟩=some (.int .i64 c.count):=hl.cell 2 rfl 2 rfl
  have k3:((w.alloc (.cells #[.int .i64 c.cap,.int .i64 c.closed,.int .i64 c.count,.int .i64 c.start,.int .i64 c.buf,.int .i64 c.th,.int .i64 c.tt,.int .i64 c.sh,.int .i64 c.st] 23)).alloc (.cells #[.int .i64 (vI c.cap),.int .i64 (vI c.closed),.int .i64 (vI c.count),.int .i64 (vI c.start),.int .i64 (vP c.buf),.int .i64 (vP c.th),.int .i64 (vP c.tt),.int .i64 (vP c.sh),.int .i64 (vP c.st)] 3)).drew.cell? ⟨tb,3,none⟩=some (.int .i64 c.start):=hl.cell 2 rfl 3 rfl
  have k4:((w.alloc (.cells #[.int .i64 c.cap,.int .i64 c.closed,.int .i64 c.count,.int .i64 c.start,.int .i64 c.buf,.int .i64 c.th,.int .i64 c.tt,.int .i64 c.sh,.int .i64 c.st] 23)).alloc (.cells #[.int .i64 (vI c.cap),.int .i64 (vI c.closed),.int .i64 (vI c.count),.int .i64 (vI c.start),.int .i64 (vP c.buf),.int .i64 (vP c.th),.int .i64 (vP c.tt),.int .i64 (vP c.sh),.int .i64 (vP c.st)] 3)).drew.cell? ⟨tb,4,none⟩=some (.int .i64 c.buf):=hl.cell 2 rfl 4 rfl
  have k5:((w.alloc (.cells #[.int .i64 c.cap,.int .i64 c.closed,.int .i64 c.count,.int .i64 c.start,.int .i64 c.buf,.int .i64 c.th,.int .i64 c.tt,.int .i64 c.sh,.int .i64 c.st] 23)).alloc (.cells #[.int .i64 (vI c.cap),.int .i64 (vI c.closed),.int .i64 (vI c.count),.int .i64 (vI c.start),.int .i64 (vP c.buf),.int .i64 (vP c.th),.int .i64 (vP c.tt),.int .i64 (vP c.sh),.int .i64 (vP c.st)] 3)).drew.cell? ⟨tb,5,none⟩=some (.int .i64 c.th):=hl.cell 2 rfl 5 rfl
  have k6:((w.alloc (.cells #[.int .i64 c.cap,.int .i64 c.closed,.int .i64 c.count,.int .i64 c.start,.int .i64 c.buf,.int .i64 c.th,.int .i64 c.tt,.int .i64 c.sh,.int .i64 c.st] 23)).alloc (.cells #[.int .i64 (vI c.cap),.int .i64 (vI c.closed),.int .i64 (vI c.count),.int .i64 (vI c.start),.int .i64 (vP c.buf),.int .i64 (vP c.th),.int .i64 (vP c.tt),.int .i64 (vP c.sh),.int .i64 (vP c.st)] 3)).drew.cell? ⟨tb,6,none⟩=some (.int .i64 c.tt):=hl.cell 2 rfl 6 rfl
  have k7:((w.alloc (.cells #[.int .i64 c.cap,.int .i64 c.closed,.int .i64 c.count,.int .i64 c.start,.int .i64 c.buf,.int .i64 c.th,.int .i64 c.tt,.int .i64 c.sh,.int .i64 c.st] 23)).alloc (.cells #[.int .i64 (vI c.cap),.int .i64 (vI c.closed),.int .i64 (vI c.count),.int .i64 (vI c.start),.int .i64 (vP c.buf),.int .i64 (vP c.th),.int .i64 (vP c.tt),.int .i64 (vP c.sh),.int .i64 (vP c.st)] 3)).drew.cell? ⟨tb,7,none⟩=some (.int .i64 c.sh):=hl.cell 2 rfl 7 rfl
  have k8:((w.alloc (.cells #[.int .i64 c.cap,.int .i64 c.closed,.int .i64 c.count,.int .i64 c.start,.int .i64 c.buf,.int .i64 c.th,.int .i64 c.tt,.int .i64 c.sh,.int .i64 c.st] 23)).alloc (.cells #[.int .i64 (vI c.cap),.int .i64 (vI c.closed),.int .i64 (vI c.count),.int .i64 (vI c.start),.int .i64 (vP c.buf),.int .i64 (vP c.th),.int .i64 (vP c.tt),.int .i64 (vP c.sh),.int .i64 (vP c.st)] 3)).drew.cell? ⟨tb,8,none⟩=some (.int .i64 c.st):=hl.cell 2 rfl 8 rfl
  clear hs
  go_enter Tryz.func16,Tryz.ntmps16
  go_wp2
  go_region_held3 (fun (w':World)=>w'.cell? ⟨tb,0,none⟩=some (.int .i64 c.cap)∧w'.cell? ⟨tb,1,none⟩=some (.int .i64 c.closed)∧w'.cell? ⟨tb,2,none⟩=some (.int .i64 c.count)∧w'.cell? ⟨tb,3,none⟩=some (.int .i64 c.start)∧w'.cell? ⟨tb,4,none⟩=some (.int .i64 c.buf)∧w'.cell? ⟨tb,5,none⟩=some (.int .i64 c.th)∧w'.cell? ⟨tb,6,none⟩=some (.int .i64 c.tt)∧w'.cell? ⟨tb,7,none⟩=some (.int .i64 c.sh)∧w'.cell? ⟨tb,8,none⟩=some (.int .i64 c.st))
    (first | (with_reducible assumption) | (with_reducible exact ⟨d0,d1,d2,d3,d4,d5,d6,d7,d8⟩) | (with_reducible exact ⟨far_drew d0,far_drew d1,far_drew d2,far_drew d3,far_drew d4,far_drew d5,far_drew d6,far_drew d7,far_drew d8⟩) | (with_reducible exact ⟨k0,k1,k2,k3,k4,k5,k6,k7,k8⟩) | (with_reducible exact ⟨y0,y1,y2,y3,y4,y5,y6,y7,y8⟩))
    (first
      | (go_at_call 106; refine (value_IntV _ _).mono ?_; rintro e w' ⟨rfl,rfl⟩)
      | (go_at_call 107; refine (v_ptr _ _).mono ?_; rintro e w' ⟨rfl,rfl⟩)
      | (go_at_call 105; refine (v_putE need_ch (by omega) (by omega) (by rfl) (chW_wd c) hl p).mono ?_; rintro e w9 ⟨rfl,h9⟩; have y0:w9.cell? ⟨tb,0,none⟩=some (.int .i64 c.cap):=h9.cell 1 rfl 0 rfl; have y1:w9.cell? ⟨tb,1,none⟩=some (.int .i64 c.closed):=h9.cell 1 rfl 1 rfl; have y2:w9.cell? ⟨tb,2,none⟩=some (.int .i64 c.count):=h9.cell 1 rfl 2 rfl; have y3:w9.cell? ⟨tb,3,none⟩=some (.int .i64 c.start):=h9.cell 1 rfl 3 rfl; have y4:w9.cell? ⟨tb,4,none⟩=some (.int .i64 c.buf):=h9.cell 1 rfl 4 rfl; have y5:w9.cell? ⟨tb,5,none⟩=some (.int .i64 c.th):=h9.cell 1 rfl 5 rfl; have y6:w9.cell? ⟨tb,6,none⟩=some (.int .i64 c.tt):=h9.cell 1 rfl 6 rfl; have y7:w9.cell? ⟨tb,7,none⟩=some (.int .i64 c.sh):=h9.cell 1 rfl 7 rfl; have y8:w9.cell? ⟨tb,8,none⟩=some (.int .i64 c.st):=h9.cell 1 rfl 8 rfl))
  go_wp2
  go_ret
  exact ⟨rfl,(show St w0 F0 (HeapP b ab _::BlkP tb _ _::ps) _ by assumption).pick1.drop⟩
theorem v_PutChan_nil (p:Int) (c:Ch) (w:World) :
    Calls Tryz.prog 16 #[.pointer none,.int .i64 p,chV c] w fun e w'=>e=.returned (.int .i64 2)∧Below w.heap.size w w':=by
  unfold chV
  obtain ⟨tb,htb⟩:∃ tb,w.heap.size=tb:=⟨_,rfl⟩
  have h0:=(St.empty w).new #[.int .i64 c.cap,.int .i64 c.closed,.int .i64 c.count,.int .i64 c.start,.int .i64 c.buf,.int .i64 c.th,.int .i64 c.tt,.int .i64 c.sh,.int .i64 c.st] 23
  rw [htb] at h0
  have hl:St w [] (BlkP tb 23 #[.int .i64 c.cap,.int .i64 c.closed,.int .i64 c.count,.int .i64 c.start,.int .i64 c.buf,.int .i64 c.th,.int .i64 c.tt,.int .i64 c.sh,.int .i64 c.st]::[]) ((w.alloc (.cells #[.int .i64 c.cap,.int .i64 c.closed,.int .i64 c.count,.int .i64 c.start,.int .i64 c.buf,.int .i64 c.th,.int .i64 c.tt,.int .i64 c.sh,.int .i64 c.st] 23)).alloc (.cells #[.int .i64 (vI c.cap),.int .i64 (vI c.closed),.int .i64 (vI c.count),.int .i64 (vI c.start),.int .i64 (vP c.buf),.int .i64 (vP c.th),.int .i64 (vP c.tt),.int .i64 (vP c.sh),.int .i64 (vP c.st)] 3)).drew:=(h0.alloc _).drew
  have d0:(w.alloc (.cells #[.int .i64 c.cap,.int .i64 c.closed,.int .i64 c.count,.int .i64 c.start,.int .i64 c.buf,.int .i64 c.th,.int .i64 c.tt,.int .i64 c.sh,.int .i64 c.st] 23)).cell? ⟨tb,0,none⟩=some (.int .i64 c.cap):=h0.cell 0 rfl 0 rfl
  have d1:(w.alloc (.cells #[.int .i64 c.cap,.int .i64 c.closed,.int .i64 c.count,.int .i64 c.start,.int .i64 c.buf,.int .i64 c.th,.int .i64 c.tt,.int .i64 c.sh,.int .i64 c.st] 23)).cell? ⟨tb,1,none⟩=some (.int .i64 c.closed):=h0.cell 0 rfl 1 rfl
  have d2:(w.alloc (.cells #[.int .i64 c.cap,.int .i64 c.closed,.int .i64 c.count,.int .i64 c.start,.int .i64 c.buf,.int .i64 c.th,.int .i64 c.tt,.int .i64 c.sh,.int .i64 c.st] 23)).cell? ⟨tb,2,none⟩=some (.int .i64 c.count):=h0.cell 0 rfl 2 rfl
  have d3:(w.alloc (.cells #[.int .i64 c.cap,.int .i64 c.closed,.int .i64 c.count,.int .i64 c.start,.int .i64 c.buf,.int .i64 c.th,.int .i64 c.tt,.int .i64 c.sh,.int .i64 c.st] 23)).cell? ⟨tb,3,none⟩=some (.int .i64 c.start):=h0.cell 0 rfl 3 rfl
  have d4:(w.alloc (.cells #[.int .i64 c.cap,.int .i64 c.closed,.int .i64 c.count,.int .i64 c.start,.int .i64 c.buf,.int .i64 c.th,.int .i64 c.tt,.int .i64 c.sh,.int .i64 c.st] 23)).cell? ⟨tb,4,none⟩=some (.int .i64 c.buf):=h0.cell 0 rfl 4 rfl
  have d5:(w.alloc (.cells #[.int .i64 c.cap,.int .i64 c.closed,.int .i64 c.count,.int .i64 c.start,.int .i64 c.buf,.int .i64 c.th,.int .i64 c.tt,.int .i64 c.sh,.int .i64 c.st] 23)).cell? ⟨tb,5,none⟩=some (.int .i64 c.th):=h0.cell 0 rfl 5 rfl
  have d6:(w.alloc (.cells #[.int .i64 c.cap,.int .i64 c.closed,.int .i64 c.count,.int .i64 c.start,.int .i64 c.buf,.int .i64 c.th,.int .i64 c.tt,.int .i64 c.sh,.int .i64 c.st] 23)).cell? ⟨tb,6,none⟩=some (.int .i64 c.tt):=h0.cell 0 rfl 6 rfl
  have d7:(w.alloc (.cells #[.int .i64 c.cap,.int .i64 c.closed,.int .i64 c.count,.int .i64 c.start,.int .i64 c.buf,.int .i64 c.th,.int .i64 c.tt,.int .i64 c.sh,.int .i64 c.st] 23)).cell? ⟨tb,7,none⟩=some (.int .i64 c.sh):=h0.cell 0 rfl 7 rfl
  have d8:(w.alloc (.cells #[.int .i64 c.cap,.int .i64 c.closed,.int .i64 c.count,.int .i64 c.start,.int .i64 c.buf,.int .i64 c.th,.int .i64 c.tt,.int .i64 c.sh,.int .i64 c.st] 23)).cell? ⟨tb,8,none⟩=some (.int .i64 c.st):=h0.cell 0 rfl 8 rfl
  have k0:((w.alloc (.cells #[.int .i64 c.cap,.int .i64 c.closed,.int .i64 c.count,.int .i64 c.start,.int .i64 c.buf,.int .i64 c.th,.int .i64 c.tt,.int .i64 c.sh,.int .i64 c.st] 23)).alloc (.cells #[.int .i64 (vI c.cap),.int .i64 (vI c.closed),.int .i64 (vI c.count),.int .i64 (vI c.start),.int .i64 (vP c.buf),.int .i64 (vP c.th),.int .i64 (vP c.tt),.int .i64 (vP c.sh),.int .i64 (vP c.st)] 3)).drew.cell? ⟨tb,0,none⟩=some (.int .i64 c.cap):=hl.cell 0 rfl 0 rfl
  have k1:((w.alloc (.cells #[.int .i64 c.cap,.int .i64 c.closed,.int .i64 c.count,.int .i64 c.start,.int .i64 c.buf,.int .i64 c.th,.int .i64 c.tt,.int .i64 c.sh,.int .i64 c.st] 23)).alloc (.cells #[.int .i64 (vI c.cap),.int .i64 (vI c.closed),.int .i64 (vI c.count),.int .i64 (vI c.start),.int .i64 (vP c.buf),.int .i64 (vP c.th),.int .i64 (vP c.tt),.int .i64 (vP c.sh),.int .i64 (vP c.st)] 3)).drew.cell? ⟨tb,1,none⟩=some (.int .i64 c.closed):=hl.cell 0 rfl 1 rfl
  have k2:((w.alloc (.cells #[.int .i64 c.cap,.int .i64 c.closed,.int .i64 c.count,.int .i64 c.start,.int .i64 c.buf,.int .i64 c.th,.int .i64 c.tt,.int .i64 c.sh,.int .i64 c.st] 23)).alloc (.cells #[.int .i64 (vI c.cap),.int .i64 (vI c.closed),.int .i64 (vI c.count),.int .i64 (vI c.start),.int .i64 (vP c.buf),.int .i64 (vP c.th),.int .i64 (vP c.tt),.int .i64 (vP c.sh),.int .i64 (vP c.st)] 3)).drew.cell? ⟨tb,2,none⟩=some (.int .i64 c.count):=hl.cell 0 rfl 2 rfl
  have k3:((w.alloc (.cells #[.int .i64 c.cap,.int .i64 c.closed,.int .i64 c.count,.int .i64 c.start,.int .i64 c.buf,.int .i64 c.th,.int .i64 c.tt,.int .i64 c.sh,.int .i64 c.st] 23)).alloc (.cells #[.int .i64 (vI c.cap),.int .i64 (vI c.closed),.int .i64 (vI c.count),.int .i64 (vI c.start),.int .i64 (vP c.buf),.int .i64 (vP c.th),.int .i64 (vP c.tt),.int .i64 (vP c.sh),.int .i64 (vP c.st)] 3)).drew.cell? ⟨tb,3,none⟩=some (.int .i64 c.start):=hl.cell 0 rfl 3 rfl
  have k4:((w.alloc (.cells #[.int .i64 c.cap,.int .i64 c.closed,.int .i64 c.count,.int .i64 c.start,.int .i64 c.buf,.int .i64 c.th,.int .i64 c.tt,.int .i64 c.sh,.int .i64 c.st] 23)).alloc (.cells #[.int .i64 (vI c.cap),.int .i64 (vI c.closed),.int .i64 (vI c.count),.int .i64 (vI c.start),.int .i64 (vP c.buf),.int .i64 (vP c.th),.int .i64 (vP c.tt),.int .i64 (vP c.sh),.int .i64 (vP c.st)] 3)).drew.cell? ⟨tb,4,none⟩=some (.int .i64 c.buf):=hl.cell 0 rfl 4 rfl
  have k5:((w.alloc (.cells #[.int .i64 c.cap,.int .i64 c.closed,.int .i64 c.count,.int .i64 c.start,.int .i64 c.buf,.int .i64 c.th,.int .i64 c.tt,.int .i64 c.sh,.int .i64 c.st] 23)).alloc (.cells #[.int .i64 (vI c.cap),.int .i64 (vI c.closed),.int .i64 (vI c.count),.int .i64 (vI c.start),.int .i64 (vP c.buf),.int .i64 (vP c.th),.int .i64 (vP c.tt),.int .i64 (vP c.sh),.int .i64 (vP c.st)] 3)).drew.cell? ⟨tb,5,none⟩=some (.int .i64 c.th):=hl.cell 0 rfl 5 rfl
  have k6:((w.alloc (.cells #[.int .i64 c.cap,.int .i64 c.closed,.int .i64 c.count,.int .i64 c.start,.int .i64 c.buf,.int .i64 c.th,.int .i64 c.tt,.int .i64 c.sh,.int .i64 c.st] 23)).alloc (.cells #[.int .i64 (vI c.cap),.int .i64 (vI c.closed),.int .i64 (vI c.count),.int .i64 (vI c.start),.int .i64 (vP c.buf),.int .i64 (vP c.th),.int .i64 (vP c.tt),.int .i64 (vP c.sh),.int .i64 (vP c.st)] 3)).drew.cell? ⟨tb,6,none⟩=some (.int .i64 c.tt):=hl.cell 0 rfl 6 rfl
  have k7:((w.alloc (.cells #[.int .i64 c.cap,.int .i64 c.closed,.int .i64 c.count,.int .i64 c.start,.int .i64 c.buf,.int .i64 c.th,.int .i64 c.tt,.int .i64 c.sh,.int .i64 c.st] 23)).alloc (.cells #[.int .i64 (vI c.cap),.int .i64 (vI c.closed),.int .i64 (vI c.count),.int .i64 (vI c.start),.int .i64 (vP c.buf),.int .i64 (vP c.th),.int .i64 (vP c.tt),.int .i64 (vP c.sh),.int .i64 (vP c.st)] 3)).drew.cell? ⟨tb,7,none⟩=some (.int .i64 c.sh):=hl.cell 0 rfl 7 rfl
  have k8:((w.alloc (.cells #[.int .i64 c.cap,.int .i64 c.closed,.int .i64 c.count,.int .i64 c.start,.int .i64 c.buf,.int .i64 c.th,.int .i64 c.tt,.int .i64 c.sh,.int .i64 c.st] 23)).alloc (.cells #[.int .i64 (vI c.cap),.int .i64 (vI c.closed),.int .i64 (vI c.count),.int .i64 (vI c.start),.int .i64 (vP c.buf),.int .i64 (vP c.th),.int .i64 (vP c.tt),.int .i64 (vP c.sh),.int .i64 (vP c.st)] 3)).drew.cell? ⟨tb,8,none⟩=some (.int .i64 c.st):=hl.cell 0 rfl 8 rfl
  go_enter Tryz.func16,Tryz.ntmps16
  go_wp2
  go_region_held3 (fun (w':World)=>w'.cell? ⟨tb,0,none⟩=some (.int .i64 c.cap)∧w'.cell? ⟨tb,1,none⟩=some (.int .i64 c.closed)∧w'.cell? ⟨tb,2,none⟩=some (.int .i64 c.count)∧w'.cell? ⟨tb,3,none⟩=some (.int .i64 c.start)∧w'.cell? ⟨tb,4,none⟩=some (.int .i64 c.buf)∧w'.cell? ⟨tb,5,none⟩=some (.int .i64 c.th)∧w'.cell? ⟨tb,6,none⟩=some (.int .i64 c.tt)∧w'.cell? ⟨tb,7,none⟩=some (.int .i64 c.sh)∧w'.cell? ⟨tb,8,none⟩=some (.int .i64 c.st))
    (first | (with_reducible assumption) | (with_reducible exact ⟨d0,d1,d2,d3,d4,d5,d6,d7,d8⟩) | (with_reducible exact ⟨far_drew d0,far_drew d1,far_drew d2,far_drew d3,far_drew d4,far_drew d5,far_drew d6,far_drew d7,far_drew d8⟩) | (with_reducible exact ⟨k0,k1,k2,k3,k4,k5,k6,k7,k8⟩))
    (first
      | (go_at_call 106; refine (value_IntV _ _).mono ?_; rintro e w' ⟨rfl,rfl⟩)
      | (go_at_call 107; refine (v_ptr _ _).mono ?_; rintro e w' ⟨rfl,rfl⟩)
      | (go_at_call 105; refine (v_put_nil _ _ _ _).mono ?_; rintro e w9 ⟨rfl,rfl⟩))
  go_wp2
  go_ret
  exact ⟨rfl,hl.drop.old⟩
set_option maxRecDepth 100000 in
set_option maxHeartbeats 4000000 in
theorem v_PutSudog (hs:St w0 F0 (HeapP b ab h::ps) w) (p:Int) (c:Su) (hv:Wd c.value) :
    Calls Tryz.prog 18 #[.pointer (some ⟨b,0,none⟩),.int .i64 p,suV c] w fun e w'=>e=.returned (.int .i64 (putE h.a p 3 7))∧St w0 F0 (HeapP b ab (hPut p 3 7 (suW c) h)::ps) w':=by
  unfold suV
  obtain ⟨tb,htb⟩:∃ tb,w.heap.size=tb:=⟨_,rfl⟩
  have h0:=hs.new #[.int .i64 c.gor,.int .i64 c.chan,.int .i64 c.value,.int .i64 c.next,.int .i64 c.to,.int .i64 c.reg,.int .i64 c.more] 25
  rw [htb] at h0
  have hl:St w0 F0 (RowP (.slice (some ⟨tb+1,0,none⟩) 7 7) (suW c)::HeapP b ab h::BlkP tb 25 #[.int .i64 c.gor,.int .i64 c.chan,.int .i64 c.value,.int .i64 c.next,.int .i64 c.to,.int .i64 c.reg,.int .i64 c.more]::ps) ((w.alloc (.cells #[.int .i64 c.gor,.int .i64 c.chan,.int .i64 c.value,.int .i64 c.next,.int .i64 c.to,.int .i64 c.reg,.int .i64 c.more] 25)).alloc (.cells #[.int .i64 (vP c.gor),.int .i64 (vP c.chan),.int .i64 (c.value),.int .i64 (vP c.next),.int .i64 (vI c.to),.int .i64 (vI c.reg),.int .i64 (vP c.more)] 3)).drew:=by
    have:=(h0.pick1.lit (suW c) (by unfold maxLen; simp [suW])).drew
    rw [show (w.alloc (.cells #[.int .i64 c.gor,.int .i64 c.chan,.int .i64 c.value,.int .i64 c.next,.int .i64 c.to,.int .i64 c.reg,.int .i64 c.more] 25)).heap.size=tb+1 by simp [htb]] at this
    exact this
  have d0:(w.alloc (.cells #[.int .i64 c.gor,.int .i64 c.chan,.int .i64 c.value,.int .i64 c.next,.int .i64 c.to,.int .i64 c.reg,.int .i64 c.more] 25)).cell? ⟨tb,0,none⟩=some (.int .i64 c.gor):=h0.cell 0 rfl 0 rfl
  have d1:(w.alloc (.cells #[.int .i64 c.gor,.int .i64 c.chan,.int .i64 c.value,.int .i64 c.next,.int .i64 c.to,.int .i64 c.reg,.int .i64 c.more] 25)).cell? ⟨tb,1,none⟩=some (.int .i64 c.chan):=h0.cell 0 rfl 1 rfl
  have d2:(w.alloc (.cells #[.int .i64 c.gor,.int .i64 c.chan,.int .i64 c.value,.int .i64 c.next,.int .i64 c.to,.int .i64 c.reg,.int .i64 c.more] 25)).cell? ⟨tb,2,none⟩=some (.int .i64 c.value):=h0.cell 0 rfl 2 rfl
  have d3:(w.alloc (.cells #[.int .i64 c.gor,.int .i64 c.chan,.int .i64 c.value,.int .i64 c.next,.int .i64 c.to,.int .i64 c.reg,.int .i64 c.more] 25)).cell? ⟨tb,3,none⟩=some (.int .i64 c.next):=h0.cell 0 rfl 3 rfl
  have d4:(w.alloc (.cells #[.int .i64 c.gor,.int .i64 c.chan,.int .i64 c.value,.int .i64 c.next,.int .i64 c.to,.int .i64 c.reg,.int .i64 c.more] 25)).cell? ⟨tb,4,none⟩=some (.int .i64 c.to):=h0.cell 0 rfl 4 rfl
  have d5:(w.alloc (.cells #[.int .i64 c.gor,.int .i64 c.chan,.int .i64 c.value,.int .i64 c.next,.int .i64 c.to,.int .i64 c.reg,.int .i64 c.more] 25)).cell? ⟨tb,5,none⟩=some (.int .i64 c.reg):=h0.cell 0 rfl 5 rfl
  have d6:(w.alloc (.cells #[.int .i64 c.gor,.int .i64 c.chan,.int .i64 c.value,.int .i64 c.next,.int .i64 c.to,.int .i64 c.reg,.int .i64 c.more] 25)).cell? ⟨tb,6,none⟩=some (.int .i64 c.more):=h0.cell 0 rfl 6 rfl
  have k0:((w.alloc (.cells #[.int .i64 c.gor,.int .i64 c.chan,.int .i64 c.value,.int .i64 c.next,.int .i64 c.to,.int .i64 c.reg,.int .i64 c.more] 25)).alloc (.cells #[.int .i64 (vP c.gor),.int .i64 (vP c.chan),.int .i64 (c.value),.int .i64 (vP c.next),.int .i64 (vI c.to),.int .i64 (vI c.reg),.int .i64 (vP c.more)] 3)).drew.cell? ⟨tb,0,none⟩=some (.int .i64 c.gor):=hl.cell 2 rfl 0 rfl
  have k1:((w.alloc (.cells #[.int .i64 c.gor,.int .i64 c.chan,.int .i64 c.value,.int .i64 c.next,.int .i64 c.to,.int .i64 c.reg,.int .i64 c.more] 25)).alloc (.cells #[.int .i64 (vP c.gor),.int .i64 (vP c.chan),.int .i64 (c.value),.int .i64 (vP c.next),.int .i64 (vI c.to),.int .i64 (vI c.reg),.int .i64 (vP c.more)] 3)).drew.cell? ⟨tb,1,none⟩=some (.int .i64 c.chan):=hl.cell 2 rfl 1 rfl
  have k2:((w.alloc (.cells #[.int .i64 c.gor,.int .i64 c.chan,.int .i64 c.value,.int .i64 c.next,.int .i64 c.to,.int .i64 c.reg,.int .i64 c.more] 25)).alloc (.cells #[.int .i64 (vP c.gor),.int .i64 (vP c.chan),.int .i64 (c.value),.int .i64 (vP c.next),.int .i64 (vI c.to),.int .i64 (vI c.reg),.int .i64 (vP c.more)] 3)).drew.cell? ⟨tb,2,none⟩=some (.int .i64 c.value):=hl.cell 2 rfl 2 rfl
  have k3:((w.alloc (.cells #[.int .i64 c.gor,.int .i64 c.chan,.int .i64 c.value,.int .i64 c.next,.int .i64 c.to,.int .i64 c.reg,.int .i64 c.more] 25)).alloc (.cells #[.int .i64 (vP c.gor),.int .i64 (vP c.chan),.int .i64 (c.value),.int .i64 (vP c.next),.int .i64 (vI c.to),.int .i64 (vI c.reg),.int .i64 (vP c.more)] 3)).drew.cell? ⟨tb,3,none⟩=some (.int .i64 c.next):=hl.cell 2 rfl 3 rfl
  have k4:((w.alloc (.cells #[.int .i64 c.gor,.int .i64 c.chan,.int .i64 c.value,.int .i64 c.next,.int .i64 c.to,.int .i64 c.reg,.int .i64 c.more] 25)).alloc (.cells #[.int .i64 (vP c.gor),.int .i64 (vP c.chan),.int .i64 (c.value),.int .i64 (vP c.next),.int .i64 (vI c.to),.int .i64 (vI c.reg),.int .i64 (vP c.more)] 3)).drew.cell? ⟨tb,4,none⟩=some (.int .i64 c.to):=hl.cell 2 rfl 4 rfl
  have k5:((w.alloc (.cells #[.int .i64 c.gor,.int .i64 c.chan,.int .i64 c.value,.int .i64 c.next,.int .i64 c.to,.int .i64 c.reg,.int .i64 c.more] 25)).alloc (.cells #[.int .i64 (vP c.gor),.int .i64 (vP c.chan),.int .i64 (c.value),.int .i64 (vP c.next),.int .i64 (vI c.to),.int .i64 (vI c.reg),.int .i64 (vP c.more)] 3)).drew.cell? ⟨tb,5,none⟩=some (.int .i64 c.reg):=hl.cell 2 rfl 5 rfl
  have k6:((w.alloc (.cells #[.int .i64 c.gor,.int .i64 c.chan,.int .i64 c.value,.int .i64 c.next,.int .i64 c.to,.int .i64 c.reg,.int .i64 c.more] 25)).alloc (.cells #[.int .i64 (vP c.gor),.int .i64 (vP c.chan),.int .i64 (c.value),.int .i64 (vP c.next),.int .i64 (vI c.to),.int .i64 (vI c.reg),.int .i64 (vP c.more)] 3)).drew.cell? ⟨tb,6,none⟩=some (.int .i64 c.more):=hl.cell 2 rfl 6 rfl
  clear hs
  go_enter Tryz.func18,Tryz.ntmps18
  go_wp2
  go_region_held3 (fun (w':World)=>w'.cell? ⟨tb,0,none⟩=some (.int .i64 c.gor)∧w'.cell? ⟨tb,1,none⟩=some (.int .i64 c.chan)∧w'.cell? ⟨tb,2,none⟩=some (.int .i64 c.value)∧w'.cell? ⟨tb,3,none⟩=some (.int .i64 c.next)∧w'.cell? ⟨tb,4,none⟩=some (.int .i64 c.to)∧w'.cell? ⟨tb,5,none⟩=some (.int .i64 c.reg)∧w'.cell? ⟨tb,6,none⟩=some (.int .i64 c.more))
    (first | (with_reducible assumption) | (with_reducible exact ⟨d0,d1,d2,d3,d4,d5,d6⟩) | (with_reducible exact ⟨far_drew d0,far_drew d1,far_drew d2,far_drew d3,far_drew d4,far_drew d5,far_drew d6⟩) | (with_reducible exact ⟨k0,k1,k2,k3,k4,k5,k6⟩) | (with_reducible exact ⟨y0,y1,y2,y3,y4,y5,y6⟩))
    (first
      | (go_at_call 106; refine (value_IntV _ _).mono ?_; rintro e w' ⟨rfl,rfl⟩)
      | (go_at_call 107; refine (v_ptr _ _).mono ?_; rintro e w' ⟨rfl,rfl⟩)
      | (go_at_call 105; refine (v_putE need_su (by omega) (by omega) (by rfl) (suW_wd c hv) hl p).mono ?_; rintro e w9 ⟨rfl,h9⟩; have y0:w9.cell? ⟨tb,0,none⟩=some (.int .i64 c.gor):=h9.cell 1 rfl 0 rfl; have y1:w9.cell? ⟨tb,1,none⟩=some (.int .i64 c.chan):=h9.cell 1 rfl 1 rfl; have y2:w9.cell? ⟨tb,2,none⟩=some (.int .i64 c.value):=h9.cell 1 rfl 2 rfl; have y3:w9.cell? ⟨tb,3,none⟩=some (.int .i64 c.next):=h9.cell 1 rfl 3 rfl; have y4:w9.cell? ⟨tb,4,none⟩=some (.int .i64 c.to):=h9.cell 1 rfl 4 rfl; have y5:w9.cell? ⟨tb,5,none⟩=some (.int .i64 c.reg):=h9.cell 1 rfl 5 rfl; have y6:w9.cell? ⟨tb,6,none⟩=some (.int .i64 c.more):=h9.cell 1 rfl 6 rfl))
  go_wp2
  go_ret
  exact ⟨rfl,(show St w0 F0 (HeapP b ab _::BlkP tb _ _::ps) _ by assumption).pick1.drop⟩
theorem v_PutSudog_nil (p:Int) (c:Su) (w:World) :
    Calls Tryz.prog 18 #[.pointer none,.int .i64 p,suV c] w fun e w'=>e=.returned (.int .i64 2)∧Below w.heap.size w w':=by
  unfold suV
  obtain ⟨tb,htb⟩:∃ tb,w.heap.size=tb:=⟨_,rfl⟩
  have h0:=(St.empty w).new #[.int .i64 c.gor,.int .i64 c.chan,.int .i64 c.value,.int .i64 c.next,.int .i64 c.to,.int .i64 c.reg,.int .i64 c.more] 25
  rw [htb] at h0
  have hl:St w [] (BlkP tb 25 #[.int .i64 c.gor,.int .i64 c.chan,.int .i64 c.value,.int .i64 c.next,.int .i64 c.to,.int .i64 c.reg,.int .i64 c.more]::[]) ((w.alloc (.cells #[.int .i64 c.gor,.int .i64 c.chan,.int .i64 c.value,.int .i64 c.next,.int .i64 c.to,.int .i64 c.reg,.int .i64 c.more] 25)).alloc (.cells #[.int .i64 (vP c.gor),.int .i64 (vP c.chan),.int .i64 (c.value),.int .i64 (vP c.next),.int .i64 (vI c.to),.int .i64 (vI c.reg),.int .i64 (vP c.more)] 3)).drew:=(h0.alloc _).drew
  have d0:(w.alloc (.cells #[.int .i64 c.gor,.int .i64 c.chan,.int .i64 c.value,.int .i64 c.next,.int .i64 c.to,.int .i64 c.reg,.int .i64 c.more] 25)).cell? ⟨tb,0,none⟩=some (.int .i64 c.gor):=h0.cell 0 rfl 0 rfl
  have d1:(w.alloc (.cells #[.int .i64 c.gor,.int .i64 c.chan,.int .i64 c.value,.int .i64 c.next,.int .i64 c.to,.int .i64 c.reg,.int .i64 c.more] 25)).cell? ⟨tb,1,none⟩=some (.int .i64 c.chan):=h0.cell 0 rfl 1 rfl
  have d2:(w.alloc (.cells #[.int .i64 c.gor,.int .i64 c.chan,.int .i64 c.value,.int .i64 c.next,.int .i64 c.to,.int .i64 c.reg,.int .i64 c.more] 25)).cell? ⟨tb,2,none⟩=some (.int .i64 c.value):=h0.cell 0 rfl 2 rfl
  have d3:(w.alloc (.cells #[.int .i64 c.gor,.int .i64 c.chan,.int .i64 c.value,.int .i64 c.next,.int .i64 c.to,.int .i64 c.reg,.int .i64 c.more] 25)).cell? ⟨tb,3,none⟩=some (.int .i64 c.next):=h0.cell 0 rfl 3 rfl
  have d4:(w.alloc (.cells #[.int .i64 c.gor,.int .i64 c.chan,.int .i64 c.value,.int .i64 c.next,.int .i64 c.to,.int .i64 c.reg,.int .i64 c.more] 25)).cell? ⟨tb,4,none⟩=some (.int .i64 c.to):=h0.cell 0 rfl 4 rfl
  have d5:(w.alloc (.cells #[.int .i64 c.gor,.int .i64 c.chan,.int .i64 c.value,.int .i64 c.next,.int .i64 c.to,.int .i64 c.reg,.int .i64 c.more] 25)).cell? ⟨tb,5,none⟩=some (.int .i64 c.reg):=h0.cell 0 rfl 5 rfl
  have d6:(w.alloc (.cells #[.int .i64 c.gor,.int .i64 c.chan,.int .i64 c.value,.int .i64 c.next,.int .i64 c.to,.int .i64 c.reg,.int .i64 c.more] 25)).cell? ⟨tb,6,none⟩=some (.int .i64 c.more):=h0.cell 0 rfl 6 rfl
  have k0:((w.alloc (.cells #[.int .i64 c.gor,.int .i64 c.chan,.int .i64 c.value,.int .i64 c.next,.int .i64 c.to,.int .i64 c.reg,.int .i64 c.more] 25)).alloc (.cells #[.int .i64 (vP c.gor),.int .i64 (vP c.chan),.int .i64 (c.value),.int .i64 (vP c.next),.int .i64 (vI c.to),.int .i64 (vI c.reg),.int .i64 (vP c.more)] 3)).drew.cell? ⟨tb,0,none⟩=some (.int .i64 c.gor):=hl.cell 0 rfl 0 rfl
  have k1:((w.alloc (.cells #[.int .i64 c.gor,.int .i64 c.chan,.int .i64 c.value,.int .i64 c.next,.int .i64 c.to,.int .i64 c.reg,.int .i64 c.more] 25)).alloc (.cells #[.int .i64 (vP c.gor),.int .i64 (vP c.chan),.int .i64 (c.value),.int .i64 (vP c.next),.int .i64 (vI c.to),.int .i64 (vI c.reg),.int .i64 (vP c.more)] 3)).drew.cell? ⟨tb,1,none⟩=some (.int .i64 c.chan):=hl.cell 0 rfl 1 rfl
  have k2:((w.alloc (.cells #[.int .i64 c.gor,.int .i64 c.chan,.int .i64 c.value,.int .i64 c.next,.int .i64 c.to,.int .i64 c.reg,.int .i64 c.more] 25)).alloc (.cells #[.int .i64 (vP c.gor),.int .i64 (vP c.chan),.int .i64 (c.value),.int .i64 (vP c.next),.int .i64 (vI c.to),.int .i64 (vI c.reg),.int .i64 (vP c.more)] 3)).drew.cell? ⟨tb,2,none⟩=some (.int .i64 c.value):=hl.cell 0 rfl 2 rfl
  have k3:((w.alloc (.cells #[.int .i64 c.gor,.int .i64 c.chan,.int .i64 c.value,.int .i64 c.next,.int .i64 c.to,.int .i64 c.reg,.int .i64 c.more] 25)).alloc (.cells #[.int .i64 (vP c.gor),.int .i64 (vP c.chan),.int .i64 (c.value),.int .i64 (vP c.next),.int .i64 (vI c.to),.int .i64 (vI c.reg),.int .i64 (vP c.more)] 3)).drew.cell? ⟨tb,3,none⟩=some (.int .i64 c.next):=hl.cell 0 rfl 3 rfl
  have k4:((w.alloc (.cells #[.int .i64 c.gor,.int .i64 c.chan,.int .i64 c.value,.int .i64 c.next,.int .i64 c.to,.int .i64 c.reg,.int .i64 c.more] 25)).alloc (.cells #[.int .i64 (vP c.gor),.int .i64 (vP c.chan),.int .i64 (c.value),.int .i64 (vP c.next),.int .i64 (vI c.to),.int .i64 (vI c.reg),.int .i64 (vP c.more)] 3)).drew.cell? ⟨tb,4,none⟩=some (.int .i64 c.to):=hl.cell 0 rfl 4 rfl
  have k5:((w.alloc (.cells #[.int .i64 c.gor,.int .i64 c.chan,.int .i64 c.value,.int .i64 c.next,.int .i64 c.to,.int .i64 c.reg,.int .i64 c.more] 25)).alloc (.cells #[.int .i64 (vP c.gor),.int .i64 (vP c.chan),.int .i64 (c.value),.int .i64 (vP c.next),.int .i64 (vI c.to),.int .i64 (vI c.reg),.int .i64 (vP c.more)] 3)).drew.cell? ⟨tb,5,none⟩=some (.int .i64 c.reg):=hl.cell 0 rfl 5 rfl
  have k6:((w.alloc (.cells #[.int .i64 c.gor,.int .i64 c.chan,.int .i64 c.value,.int .i64 c.next,.int .i64 c.to,.int .i64 c.reg,.int .i64 c.more] 25)).alloc (.cells #[.int .i64 (vP c.gor),.int .i64 (vP c.chan),.int .i64 (c.value),.int .i64 (vP c.next),.int .i64 (vI c.to),.int .i64 (vI c.reg),.int .i64 (vP c.more)] 3)).drew.cell? ⟨tb,6,none⟩=some (.int .i64 c.more):=hl.cell 0 rfl 6 rfl
  go_enter Tryz.func18,Tryz.ntmps18
  go_wp2
  go_region_held3 (fun (w':World)=>w'.cell? ⟨tb,0,none⟩=some (.int .i64 c.gor)∧w'.cell? ⟨tb,1,none⟩=some (.int .i64 c.chan)∧w'.cell? ⟨tb,2,none⟩=some (.int .i64 c.value)∧w'.cell? ⟨tb,3,none⟩=some (.int .i64 c.next)∧w'.cell? ⟨tb,4,none⟩=some (.int .i64 c.to)∧w'.cell? ⟨tb,5,none⟩=some (.int .i64 c.reg)∧w'.cell? ⟨tb,6,none⟩=some (.int .i64 c.more))
    (first | (with_reducible assumption) | (with_reducible exact ⟨d0,d1,d2,d3,d4,d5,d6⟩) | (with_reducible exact ⟨far_drew d0,far_drew d1,far_drew d2,far_drew d3,far_drew d4,far_drew d5,far_drew d6⟩) | (with_reducible exact ⟨k0,k1,k2,k3,k4,k5,k6⟩))
    (first
      | (go_at_call 106; refine (value_IntV _ _).mono ?_; rintro e w' ⟨rfl,rfl⟩)
      | (go_at_call 107; refine (v_ptr _ _).mono ?_; rintro e w' ⟨rfl,rfl⟩)
      | (go_at_call 105; refine (v_put_nil _ _ _ _).mono ?_; rintro e w9 ⟨rfl,rfl⟩))
  go_wp2
  go_ret
  exact ⟨rfl,hl.drop.old⟩
end
end Go.Proofs.YtffnjpapggidlaaGreat
namespace Go.Proofs.YtffnjpapggidlaaGreat
open Go.RowKit
set_option linter.unusedVariables false
set_option linter.unusedSimpArgs false
@[go_sem] theorem ix6_0 (a b c d e f:Value) (w:World):(Instr.index 26 (.agg #[a,b,c,d,e,f]) (.int .i64 0)).run Tryz.prog w=.ok a w:=by kernel_rfl
@[go_sem] theorem ix6_1 (a b c d e f:Value) (w:World):(Instr.index 26 (.agg #[a,b,c,d,e,f]) (.int .i64 1)).run Tryz.prog w=.ok b w:=by kernel_rfl
@[go_sem] theorem ix6_2 (a b c d e f:Value) (w:World):(Instr.index 26 (.agg #[a,b,c,d,e,f]) (.int .i64 2)).run Tryz.prog w=.ok c w:=by kernel_rfl
@[go_sem] theorem ix6_3 (a b c d e f:Value) (w:World):(Instr.index 26 (.agg #[a,b,c,d,e,f]) (.int .i64 3)).run Tryz.prog w=.ok d w:=by kernel_rfl
@[go_sem] theorem ix6_4 (a b c d e f:Value) (w:World):(Instr.index 26 (.agg #[a,b,c,d,e,f]) (.int .i64 4)).run Tryz.prog w=.ok e w:=by kernel_rfl
@[go_sem] theorem ix6_5 (a b c d e f:Value) (w:World):(Instr.index 26 (.agg #[a,b,c,d,e,f]) (.int .i64 5)).run Tryz.prog w=.ok f w:=by kernel_rfl
section
variable {w0 w:World} {F0:List Nat} {ps:List Piece} {b ab:Nat} {h:HSt}
set_option maxRecDepth 100000 in
set_option maxHeartbeats 4000000 in
theorem v_Gor_no (hs:St w0 F0 (HeapP b ab h::ps) w) {p:Int} (hp:¬ Is h.a p 4 10) :
    Calls Tryz.prog 29 #[.pointer (some ⟨b,0,none⟩),.int .i64 p] w fun e w'=>e=.returned (.tuple #[goV go0,.int .i64 10])∧St w0 F0 (HeapP b ab h::ps) w':=by
  obtain ⟨tb,htb⟩:∃ tb,w.heap.size=tb:=⟨_,rfl⟩
  have h0:=hs.new #[.int .i64 0,.int .i64 0,.int .i64 0,.int .i64 0,.int .i64 0,.int .i64 0,.int .i64 0,.int .i64 0,.int .i64 0,.int .i64 0] 28
  rw [htb] at h0
  go_enter Tryz.func29,Tryz.ntmps29
  go_wp2_with fail
  refine (v_seen_no need_go h0.pick1 hp).mono ?_
  rintro e w1 ⟨rfl,h2⟩
  have e0:=h2.cell 1 rfl 0 rfl
  have f0:=h2.free 1 rfl 0
  have e1:=h2.cell 1 rfl 1 rfl
  have f1:=h2.free 1 rfl 1
  have e2:=h2.cell 1 rfl 2 rfl
  have f2:=h2.free 1 rfl 2
  have e3:=h2.cell 1 rfl 3 rfl
  have f3:=h2.free 1 rfl 3
  have e4:=h2.cell 1 rfl 4 rfl
  have f4:=h2.free 1 rfl 4
  have e5:=h2.cell 1 rfl 5 rfl
  have f5:=h2.free 1 rfl 5
  have e6:=h2.cell 1 rfl 6 rfl
  have f6:=h2.free 1 rfl 6
  have e7:=h2.cell 1 rfl 7 rfl
  have f7:=h2.free 1 rfl 7
  have e8:=h2.cell 1 rfl 8 rfl
  have f8:=h2.free 1 rfl 8
  have e9:=h2.cell 1 rfl 9 rfl
  have f9:=h2.free 1 rfl 9
  have hf:=((((((((((h2.pick1.set 0 (.int .i64 0)).set 1 (.int .i64 0)).set 2 (.int .i64 0)).set 3 (.int .i64 0)).set 4 (.int .i64 0)).set 5 (.int .i64 0)).set 6 (.int .i64 0)).set 7 (.int .i64 0)).set 8 (.int .i64 0)).set 9 (.int .i64 0)).drop
  clear h0 hs hp htb
  go_wp2
  (try simp only [Exit.inBlock,Exit.then])
  refine bodyPost_ret (v:=.tuple #[goV go0,.int .i64 10]) (by rw [results_cell_tmp rfl]; go_simp; rfl) rfl ?_
  exact ⟨rfl,hf⟩
set_option maxRecDepth 100000 in
set_option maxHeartbeats 4000000 in
theorem v_Gor_nil (p:Int) (w:World) :
    Calls Tryz.prog 29 #[.pointer none,.int .i64 p] w fun e w'=>e=.returned (.tuple #[goV go0,.int .i64 2])∧Below w.heap.size w w':=by
  obtain ⟨tb,htb⟩:∃ tb,w.heap.size=tb:=⟨_,rfl⟩
  have h2:=(St.empty w).new #[.int .i64 0,.int .i64 0,.int .i64 0,.int .i64 0,.int .i64 0,.int .i64 0,.int .i64 0,.int .i64 0,.int .i64 0,.int .i64 0] 28
  rw [htb] at h2
  go_enter Tryz.func29,Tryz.ntmps29
  go_wp2_with fail
  refine (v_seen_nil _ _ _).mono ?_
  rintro e w1 ⟨rfl,hw1⟩
  rw [hw1] at h2
  clear hw1 htb
  have e0:=h2.cell 0 rfl 0 rfl
  have f0:=h2.free 0 rfl 0
  have e1:=h2.cell 0 rfl 1 rfl
  have f1:=h2.free 0 rfl 1
  have e2:=h2.cell 0 rfl 2 rfl
  have f2:=h2.free 0 rfl 2
  have e3:=h2.cell 0 rfl 3 rfl
  have f3:=h2.free 0 rfl 3
  have e4:=h2.cell 0 rfl 4 rfl
  have f4:=h2.free 0 rfl 4
  have e5:=h2.cell 0 rfl 5 rfl
  have f5:=h2.free 0 rfl 5
  have e6:=h2.cell 0 rfl 6 rfl
  have f6:=h2.free 0 rfl 6
  have e7:=h2.cell 0 rfl 7 rfl
  have f7:=h2.free 0 rfl 7
  have e8:=h2.cell 0 rfl 8 rfl
  have f8:=h2.free 0 rfl 8
  have e9:=h2.cell 0 rfl 9 rfl
  have f9:=h2.free 0 rfl 9
  have hf:=((((((((((h2.set 0 (.int .i64 0)).set 1 (.int .i64 0)).set 2 (.int .i64 0)).set 3 (.int .i64 0)).set 4 (.int .i64 0)).set 5 (.int .i64 0)).set 6 (.int .i64 0)).set 7 (.int .i64 0)).set 8 (.int .i64 0)).set 9 (.int .i64 0)).drop.old
  go_wp2
  (try simp only [Exit.inBlock,Exit.then])
  refine bodyPost_ret (v:=.tuple #[goV go0,.int .i64 2]) (by rw [results_cell_tmp rfl]; go_simp; rfl) rfl ?_
  exact ⟨rfl,hf⟩
set_option maxRecDepth 100000 in
set_option maxHeartbeats 4000000 in
theorem v_PutGor (hs:St w0 F0 (HeapP b ab h::ps) w) (p:Int) (g:Gr) (hv:GoWd g) :
    Calls Tryz.prog 20 #[.pointer (some ⟨b,0,none⟩),.int .i64 p,goV g] w fun e w'=>e=.returned (.int .i64 (putE h.a p 4 10))∧St w0 F0 (HeapP b ab (hPut p 4 10 (goW g) h)::ps) w':=by
  unfold goV
  obtain ⟨tb,htb⟩:∃ tb,w.heap.size=tb:=⟨_,rfl⟩
  have h0:=hs.new #[.int .i64 g.id,.int .i64 g.status,.int .i64 g.pc,.int .i64 g.a,.int .i64 g.b,.int .i64 g.c,.int .i64 g.d,.int .i64 g.e,.int .i64 g.f,.int .i64 g.sudogs] 28
  rw [htb] at h0
  have hl:St w0 F0 (RowP (.slice (some ⟨tb+1,0,none⟩) 3 3) ((goW g).take 3)::HeapP b ab h::BlkP tb 28 #[.int .i64 g.id,.int .i64 g.status,.int .i64 g.pc,.int .i64 g.a,.int .i64 g.b,.int .i64 g.c,.int .i64 g.d,.int .i64 g.e,.int .i64 g.f,.int .i64 g.sudogs]::ps) ((w.alloc (.cells #[.int .i64 g.id,.int .i64 g.status,.int .i64 g.pc,.int .i64 g.a,.int .i64 g.b,.int .i64 g.c,.int .i64 g.d,.int .i64 g.e,.int .i64 g.f,.int .i64 g.sudogs] 28)).alloc (.cells #[.int .i64 (vI g.id),.int .i64 (vI g.status),.int .i64 (vI g.pc)] 3)).drew:=by
    have:=(h0.pick1.lit3 (vI g.id) (vI g.status) (vI g.pc)).drew
    rw [show (w.alloc (.cells #[.int .i64 g.id,.int .i64 g.status,.int .i64 g.pc,.int .i64 g.a,.int .i64 g.b,.int .i64 g.c,.int .i64 g.d,.int .i64 g.e,.int .i64 g.f,.int .i64 g.sudogs] 28)).heap.size=tb+1 by simp [htb]] at this
    exact this
  have d0:(w.alloc (.cells #[.int .i64 g.id,.int .i64 g.status,.int .i64 g.pc,.int .i64 g.a,.int .i64 g.b,.int .i64 g.c,.int .i64 g.d,.int .i64 g.e,.int .i64 g.f,.int .i64 g.sudogs] 28)).cell? ⟨tb,0,none⟩=some (.int .i64 g.id):=h0.cell 0 rfl 0 rfl
  have d1:(w.alloc (.cells #[.int .i64 g.id,.int .i64 g.status,.int .i64 g.pc,.int .i64 g.a,.int .i64 g.b,.int .i64 g.c,.int .i64 g.d,.int .i64 g.e,.int .i64 g.f,.int .i64 g.sudogs] 28)).cell? ⟨tb,1,none⟩=some (.int .i64 g.status):=h0.cell 0 rfl 1 rfl
  have d2:(w.alloc (.cells #[.int .i64 g.id,.int .i64 g.status,.int .i64 g.pc,.int .i64 g.a,.int .i64 g.b,.int .i64 g.c,.int .i64 g.d,.int .i64 g.e,.int .i64 g.f,.int .i64 g.sudogs] 28)).cell? ⟨tb,2,none⟩=some (.int .i64 g.pc):=h0.cell 0 rfl 2 rfl
  have k0:((w.alloc (.cells #[.int .i64 g.id,.int .i64 g.status,.int .i64 g.pc,.int .i64 g.a,.int .i64 g.b,.int .i64 g.c,.int .i64 g.d,.int .i64 g.e,.int .i64 g.f,.int .i64 g.sudogs] 28)).alloc (.cells #[.int .i64 (vI g.id),.int .i64 (vI g.status),.int .i64 (vI g.pc)] 3)).drew.cell? ⟨tb,0,none⟩=some (.int .i64 g.id):=hl.cell 2 rfl 0 rfl
  have k1:((w.alloc (.cells #[.int .i64 g.id,.int .i64 g.status,.int .i64 g.pc,.int .i64 g.a,.int .i64 g.b,.int .i64 g.c,.int .i64 g.d,.int .i64 g.e,.int .i64 g.f,.int .i64 g.sudogs] 28)).alloc (.cells #[.int .i64 (vI g.id),.int .i64 (vI g.status),.int .i64 (vI g.pc)] 3)).drew.cell? ⟨tb,1,none⟩=some (.int .i64 g.status):=hl.cell 2 rfl 1 rfl
  have k2:((w.alloc (.cells #[.int .i64 g.id,.int .i64 g.status,.int .i64 g.pc,.int .i64 g.a,.int .i64 g.b,.int .i64 g.c,.int .i64 g.d,.int .i64 g.e,.int .i64 g.f,.int .i64 g.sudogs] 28)).alloc (.cells #[.int .i64 (vI g.id),.int .i64 (vI g.status),.int .i64 (vI g.pc)] 3)).drew.cell? ⟨tb,2,none⟩=some (.int .i64 g.pc):=hl.cell 2 rfl 2 rfl
  clear hs
  go_enter Tryz.func20,Tryz.ntmps20
  go_wp2
  go_region_held3 (fun (w':World)=>w'.cell? ⟨tb,0,none⟩=some (.int .i64 g.id)∧w'.cell? ⟨tb,1,none⟩=some (.int .i64 g.status)∧w'.cell? ⟨tb,2,none⟩=some (.int .i64 g.pc))
    (first | (with_reducible assumption) | (with_reducible exact ⟨d0,d1,d2⟩) | (with_reducible exact ⟨far_drew d0,far_drew d1,far_drew d2⟩) | (with_reducible exact ⟨k0,k1,k2⟩))
    (first
      | (go_at_call 106; refine (value_IntV _ _).mono ?_; rintro e w' ⟨rfl,rfl⟩))
  rename_i hH
  clear hH d0 d1 d2 k0 k1 k2
  obtain ⟨W,hW⟩:∃ W,((w.alloc (.cells #[.int .i64 g.id,.int .i64 g.status,.int .i64 g.pc,.int .i64 g.a,.int .i64 g.b,.int .i64 g.c,.int .i64 g.d,.int .i64 g.e,.int .i64 g.f,.int .i64 g.sudogs] 28)).alloc (.cells #[.int .i64 (vI g.id),.int .i64 (vI g.status),.int .i64 (vI g.pc)] 3)).drew=W:=⟨_,rfl⟩
  rw [hW] at hl
  have hsz:w.heap.size+1=tb+1:=by rw [htb]
  (try rw [hW])
  clear h0
  have k3:W.cell? ⟨tb,3,none⟩=some (.int .i64 g.a):=hl.cell 2 rfl 3 rfl
  have k4:W.cell? ⟨tb,4,none⟩=some (.int .i64 g.b):=hl.cell 2 rfl 4 rfl
  have k5:W.cell? ⟨tb,5,none⟩=some (.int .i64 g.c):=hl.cell 2 rfl 5 rfl
  have k6:W.cell? ⟨tb,6,none⟩=some (.int .i64 g.d):=hl.cell 2 rfl 6 rfl
  have k7:W.cell? ⟨tb,7,none⟩=some (.int .i64 g.e):=hl.cell 2 rfl 7 rfl
  have k8:W.cell? ⟨tb,8,none⟩=some (.int .i64 g.f):=hl.cell 2 rfl 8 rfl
  go_wp2
  go_loopw [7,22] (fun vv iv wr=>∃ (k:Nat) (v:Value),k≤6∧vv=v∧iv=.int .i64 k∧St w0 F0 (RowP v ((goW g).take (3+k))::HeapP b ab h::BlkP tb 28 #[.int .i64 g.id,.int .i64 g.status,.int .i64 g.pc,.int .i64 g.a,.int .i64 g.b,.int .i64 g.c,.int .i64 g.d,.int .i64 g.e,.int .i64 g.f,.int .i64 g.sudogs]::ps) wr) (fun _ iv _=>6 - (intOf iv).toNat)
  case atStart=>exact ⟨0,_,by omega,rfl,rfl,hl⟩
  case round =>
    obtain ⟨k,v,hk,rfl,rfl,h5⟩:=hrel
    clear hl htb hW k3 k4 k5 k6 k7 k8 hsz
    have hc:k=0 ∨ k=1 ∨ k=2 ∨ k=3 ∨ k=4 ∨ k=5 ∨ k=6:=by omega
    rcases hc with rfl | rfl | rfl | rfl | rfl | rfl | rfl
    · go_wp2_with (at_builtin; refine wpList_growW 3 (by simp [goW]) (by omega) rfl _ _ rfl h5 rfl rfl rfl ?_)
      intro gv cv w4 h8
      clear h5
      go_wp2
      go_roundw
      case rel=>exact ⟨1,_,by omega,rfl,rfl,h8⟩
      case measure=>simp [intOf]
    · go_wp2_with (at_builtin; refine wpList_growW 4 (by simp [goW]) (by omega) rfl _ _ rfl h5 rfl rfl rfl ?_)
      intro gv cv w4 h8
      clear h5
      go_wp2
      go_roundw
      case rel=>exact ⟨2,_,by omega,rfl,rfl,h8⟩
      case measure=>simp [intOf]
    · go_wp2_with (at_builtin; refine wpList_growW 5 (by simp [goW]) (by omega) rfl _ _ rfl h5 rfl rfl rfl ?_)
      intro gv cv w4 h8
      clear h5
      go_wp2
      go_roundw
      case rel=>exact ⟨3,_,by omega,rfl,rfl,h8⟩
      case measure=>simp [intOf]
    · go_wp2_with (at_builtin; refine wpList_growW 6 (by simp [goW]) (by omega) rfl _ _ rfl h5 rfl rfl rfl ?_)
      intro gv cv w4 h8
      clear h5
      go_wp2
      go_roundw
      case rel=>exact ⟨4,_,by omega,rfl,rfl,h8⟩
      case measure=>simp [intOf]
    · go_wp2_with (at_builtin; refine wpList_growW 7 (by simp [goW]) (by omega) rfl _ _ rfl h5 rfl rfl rfl ?_)
      intro gv cv w4 h8
      clear h5
      go_wp2
      go_roundw
      case rel=>exact ⟨5,_,by omega,rfl,rfl,h8⟩
      case measure=>simp [intOf]
    · go_wp2_with (at_builtin; refine wpList_growW 8 (by simp [goW]) (by omega) rfl _ _ rfl h5 rfl rfl rfl ?_)
      intro gv cv w4 h8
      clear h5
      go_wp2
      go_roundw
      case rel=>exact ⟨6,_,by omega,rfl,rfl,h8⟩
      case measure=>simp [intOf]
    · have c9:wr.cell? ⟨tb,9,none⟩=some (.int .i64 g.sudogs):=h5.cell 2 rfl 9 rfl
      go_wp2_with fail
      refine (v_ptr _ _).mono ?_
      rintro e w2 ⟨rfl,rfl⟩
      go_wp2_with (at_builtin; refine wpList_growW 9 (by simp [goW]) (by omega) rfl _ _ rfl h5 rfl rfl rfl ?_)
      intro gv cv w4 h8
      clear h5 c9
      go_wp2_with fail
      refine (v_putE need_go (by omega) (by omega) (by rfl) (goW_wd g hv) (l:=goW g) h8 p).mono ?_
      rintro e w9 ⟨rfl,h9⟩
      go_wp2
      go_ret
      exact ⟨rfl,h9.pick1.drop⟩
set_option maxRecDepth 100000 in
set_option maxHeartbeats 4000000 in
theorem v_PutGor_nil (p:Int) (g:Gr) (w:World) :
    Calls Tryz.prog 20 #[.pointer none,.int .i64 p,goV g] w fun e w'=>e=.returned (.int .i64 2)∧Below w.heap.size w w':=by
  unfold goV
  obtain ⟨tb,htb⟩:∃ tb,w.heap.size=tb:=⟨_,rfl⟩
  have h0:=(St.empty w).new #[.int .i64 g.id,.int .i64 g.status,.int .i64 g.pc,.int .i64 g.a,.int .i64 g.b,.int .i64 g.c,.int .i64 g.d,.int .i64 g.e,.int .i64 g.f,.int .i64 g.sudogs] 28
  rw [htb] at h0
  have hl:St w [] (RowP (.slice (some ⟨tb+1,0,none⟩) 3 3) ((goW g).take 3)::BlkP tb 28 #[.int .i64 g.id,.int .i64 g.status,.int .i64 g.pc,.int .i64 g.a,.int .i64 g.b,.int .i64 g.c,.int .i64 g.d,.int .i64 g.e,.int .i64 g.f,.int .i64 g.sudogs]::[]) ((w.alloc (.cells #[.int .i64 g.id,.int .i64 g.status,.int .i64 g.pc,.int .i64 g.a,.int .i64 g.b,.int .i64 g.c,.int .i64 g.d,.int .i64 g.e,.int .i64 g.f,.int .i64 g.sudogs] 28)).alloc (.cells #[.int .i64 (vI g.id),.int .i64 (vI g.status),.int .i64 (vI g.pc)] 3)).drew:=by
    have:=(h0.lit3 (vI g.id) (vI g.status) (vI g.pc)).drew
    rw [show (w.alloc (.cells #[.int .i64 g.id,.int .i64 g.status,.int .i64 g.pc,.int .i64 g.a,.int .i64 g.b,.int .i64 g.c,.int .i64 g.d,.int .i64 g.e,.int .i64 g.f,.int .i64 g.sudogs] 28)).heap.size=tb+1 by simp [htb]] at this
    exact this
  have d0:(w.alloc (.cells #[.int .i64 g.id,.int .i64 g.status,.int .i64 g.pc,.int .i64 g.a,.int .i64 g.b,.int .i64 g.c,.int .i64 g.d,.int .i64 g.e,.int .i64 g.f,.int .i64 g.sudogs] 28)).cell? ⟨tb,0,none⟩=some (.int .i64 g.id):=h0.cell 0 rfl 0 rfl
  have d1:(w.alloc (.cells #[.int .i64 g.id,.int .i64 g.status,.int .i64 g.pc,.int .i64 g.a,.int .i64 g.b,.int .i64 g.c,.int .i64 g.d,.int .i64 g.e,.int .i64 g.f,.int .i64 g.sudogs] 28)).cell? ⟨tb,1,none⟩=some (.int .i64 g.status):=h0.cell 0 rfl 1 rfl
  have d2:(w.alloc (.cells #[.int .i64 g.id,.int .i64 g.status,.int .i64 g.pc,.int .i64 g.a,.int .i64 g.b,.int .i64 g.c,.int .i64 g.d,.int .i64 g.e,.int .i64 g.f,.int .i64 g.sudogs] 28)).cell? ⟨tb,2,none⟩=some (.int .i64 g.pc):=h0.cell 0 rfl 2 rfl
  have k0:((w.alloc (.cells #[.int .i64 g.id,.int .i64 g.status,.int .i64 g.pc,.int .i64 g.a,.int .i64 g.b,.int .i64 g.c,.int .i64 g.d,.int .i64 g.e,.int .i64 g.f,.int .i64 g.sudogs] 28)).alloc (.cells #[.int .i64 (vI g.id),.int .i64 (vI g.status),.int .i64 (vI g.pc)] 3)).drew.cell? ⟨tb,0,none⟩=some (.int .i64 g.id):=hl.cell 1 rfl 0 rfl
  have k1:((w.alloc (.cells #[.int .i64 g.id,.int .i64 g.status,.int .i64 g.pc,.int .i64 g.a,.int .i64 g.b,.int .i64 g.c,.int .i64 g.d,.int .i64 g.e,.int .i64 g.f,.int .i64 g.sudogs] 28)).alloc (.cells #[.int .i64 (vI g.id),.int .i64 (vI g.status),.int .i64 (vI g.pc)] 3)).drew.cell? ⟨tb,1,none⟩=some (.int .i64 g.status):=hl.cell 1 rfl 1 rfl
  have k2:((w.alloc (.cells #[.int .i64 g.id,.int .i64 g.status,.int .i64 g.pc,.int .i64 g.a,.int .i64 g.b,.int .i64 g.c,.int .i64 g.d,.int .i64 g.e,.int .i64 g.f,.int .i64 g.sudogs] 28)).alloc (.cells #[.int .i64 (vI g.id),.int .i64 (vI g.status),.int .i64 (vI g.pc)] 3)).drew.cell? ⟨tb,2,none⟩=some (.int .i64 g.pc):=hl.cell 1 rfl 2 rfl
  go_enter Tryz.func20,Tryz.ntmps20
  go_wp2
  go_region_held3 (fun (w':World)=>w'.cell? ⟨tb,0,none⟩=some (.int .i64 g.id)∧w'.cell? ⟨tb,1,none⟩=some (.int .i64 g.status)∧w'.cell? ⟨tb,2,none⟩=some (.int .i64 g.pc))
    (first | (with_reducible assumption) | (with_reducible exact ⟨d0,d1,d2⟩) | (with_reducible exact ⟨far_drew d0,far_drew d1,far_drew d2⟩) | (with_reducible exact ⟨k0,k1,k2⟩))
    (first
      | (go_at_call 106; refine (value_IntV _ _).mono ?_; rintro e w' ⟨rfl,rfl⟩))
  rename_i hH
  clear hH d0 d1 d2 k0 k1 k2
  obtain ⟨W,hW⟩:∃ W,((w.alloc (.cells #[.int .i64 g.id,.int .i64 g.status,.int .i64 g.pc,.int .i64 g.a,.int .i64 g.b,.int .i64 g.c,.int .i64 g.d,.int .i64 g.e,.int .i64 g.f,.int .i64 g.sudogs] 28)).alloc (.cells #[.int .i64 (vI g.id),.int .i64 (vI g.status),.int .i64 (vI g.pc)] 3)).drew=W:=⟨_,rfl⟩
  rw [hW] at hl
  have hsz:w.heap.size+1=tb+1:=by rw [htb]
  (try rw [hW])
  clear h0
  have k3:W.cell? ⟨tb,3,none⟩=some (.int .i64 g.a):=hl.cell 1 rfl 3 rfl
  have k4:W.cell? ⟨tb,4,none⟩=some (.int .i64 g.b):=hl.cell 1 rfl 4 rfl
  have k5:W.cell? ⟨tb,5,none⟩=some (.int .i64 g.c):=hl.cell 1 rfl 5 rfl
  have k6:W.cell? ⟨tb,6,none⟩=some (.int .i64 g.d):=hl.cell 1 rfl 6 rfl
  have k7:W.cell? ⟨tb,7,none⟩=some (.int .i64 g.e):=hl.cell 1 rfl 7 rfl
  have k8:W.cell? ⟨tb,8,none⟩=some (.int .i64 g.f):=hl.cell 1 rfl 8 rfl
  go_wp2
  go_loopw [7,22] (fun vv iv wr=>∃ (k:Nat) (v:Value),k≤6∧vv=v∧iv=.int .i64 k∧St w [] (RowP v ((goW g).take (3+k))::BlkP tb 28 #[.int .i64 g.id,.int .i64 g.status,.int .i64 g.pc,.int .i64 g.a,.int .i64 g.b,.int .i64 g.c,.int .i64 g.d,.int .i64 g.e,.int .i64 g.f,.int .i64 g.sudogs]::[]) wr) (fun _ iv _=>6 - (intOf iv).toNat)
  case atStart=>exact ⟨0,_,by omega,rfl,rfl,hl⟩
  case round =>
    obtain ⟨k,v,hk,rfl,rfl,h5⟩:=hrel
    clear hl htb hW k3 k4 k5 k6 k7 k8 hsz
    have hc:k=0 ∨ k=1 ∨ k=2 ∨ k=3 ∨ k=4 ∨ k=5 ∨ k=6:=by omega
    rcases hc with rfl | rfl | rfl | rfl | rfl | rfl | rfl
    · go_wp2_with (at_builtin; refine wpList_growW 3 (by simp [goW]) (by omega) rfl _ _ rfl h5 rfl rfl rfl ?_)
      intro gv cv w4 h8
      clear h5
      go_wp2
      go_roundw
      case rel=>exact ⟨1,_,by omega,rfl,rfl,h8⟩
      case measure=>simp [intOf]
    · go_wp2_with (at_builtin; refine wpList_growW 4 (by simp [goW]) (by omega) rfl _ _ rfl h5 rfl rfl rfl ?_)
      intro gv cv w4 h8
      clear h5
      go_wp2
      go_roundw
      case rel=>exact ⟨2,_,by omega,rfl,rfl,h8⟩
      case measure=>simp [intOf]
    · go_wp2_with (at_builtin; refine wpList_growW 5 (by simp [goW]) (by omega) rfl _ _ rfl h5 rfl rfl rfl ?_)
      intro gv cv w4 h8
      clear h5
      go_wp2
      go_roundw
      case rel=>exact ⟨3,_,by omega,rfl,rfl,h8⟩
      case measure=>simp [intOf]
    · go_wp2_with (at_builtin; refine wpList_growW 6 (by simp [goW]) (by omega) rfl _ _ rfl h5 rfl rfl rfl ?_)
      intro gv cv w4 h8
      clear h5
      go_wp2
      go_roundw
      case rel=>exact ⟨4,_,by omega,rfl,rfl,h8⟩
      case measure=>simp [intOf]
    · go_wp2_with (at_builtin; refine wpList_growW 7 (by simp [goW]) (by omega) rfl _ _ rfl h5 rfl rfl rfl ?_)
      intro gv cv w4 h8
      clear h5
      go_wp2
      go_roundw
      case rel=>exact ⟨5,_,by omega,rfl,rfl,h8⟩
      case measure=>simp [intOf]
    · go_wp2_with (at_builtin; refine wpList_growW 8 (by simp [goW]) (by omega) rfl _ _ rfl h5 rfl rfl rfl ?_)
      intro gv cv w4 h8
      clear h5
      go_wp2
      go_roundw
      case rel=>exact ⟨6,_,by omega,rfl,rfl,h8⟩
      case measure=>simp [intOf]
    · have c9:wr.cell? ⟨tb,9,none⟩=some (.int .i64 g.sudogs):=h5.cell 1 rfl 9 rfl
      go_wp2_with fail
      refine (v_ptr _ _).mono ?_
      rintro e w2 ⟨rfl,rfl⟩
      go_wp2_with (at_builtin; refine wpList_growW 9 (by simp [goW]) (by omega) rfl _ _ rfl h5 rfl rfl rfl ?_)
      intro gv cv w4 h8
      clear h5 c9
      go_wp2_with fail
      refine (v_put_nil _ _ _ _).mono ?_
      rintro e w9 ⟨rfl,h9⟩
      go_wp2
      go_ret
      exact ⟨rfl,by rw [← h9]; exact h8.drop.drop.old⟩
end
end Go.Proofs.YtffnjpapggidlaaGreat
