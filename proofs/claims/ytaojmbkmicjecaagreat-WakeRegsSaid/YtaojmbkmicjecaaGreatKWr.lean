/- Wr -/
import Derived.Test.YtaojmbkmicjecaaGreatKG14w
import Derived.Test.YtaojmbkmicjecaaGreatKTw14
import Derived.Test.YtaojmbkmicjecaaGreatKSim
import Derived.Test.YtaojmbkmicjecaaGreatKPrimV
import Derived.KernelRfl
namespace Go.Proofs.YtaojmbkmicjecaaGreat
open Go.RowKit
set_option linter.unusedVariables false
set_option maxRecDepth 100000
namespace wr
def stW (v:Nat) (o:List (Nat×Nat×Int×List Int)):HSt:=⟨⟨[row 2 2 2,row 2 2 1] ++ fours v ++ List.replicate (58 - (fours v).length) noRow,mkP o 0⟩,colL ((if v=0 then [] else [64]) ++ [32,16,0]),[],false,0,0,0⟩
def ob (ch:List Int) (g:List Int) (su:List (Nat×Nat×Int×List Int)):List (Nat×Nat×Int×List Int):=(0,9,1,ch)::(16,10,4,g)::(32,10,4,[2,0,0,0,0,0,0,0,0,0])::su
def z9:List Int:=[0,0,0,0,0,0,0,0,0]
def A0:HSt:=stW 0 (ob z9 (0::z9) [])
def A1 (_:List Int):HSt:=stW 1 (ob z9 (0::z9) [(64,7,3,[0,0,0,0,0,0,0])])
def A2 (W r:Int):HSt:=stW 1 (ob z9 (0::z9) [(64,7,3,[33,1,0,0,W,r,0])])
def A3 (W r:Int):HSt:=stW 1 (ob [0,0,0,0,0,129,129,0,0] (0::z9) [(64,7,3,[33,1,0,0,W,r,0])])
def A4 (W r:Int):HSt:=stW 1 (ob [0,0,0,0,0,129,129,0,0] [0,2,0,0,0,0,0,0,0,129] [(64,7,3,[33,1,0,0,W,r,0])])
def A5 (W r pc:Int) (g:List Int):HSt:=stW 1 (ob z9 ([0,0,pc] ++ g ++ [0]) [(64,7,3,[33,1,0,0,W,r,0])])
theorem made_is:law14_made.m 100 [0] 1=some (A0,A0,[0],[16,32]):=by kernel_rfl
theorem alloc_is:law14_allocI.m 100 A0 A0 [0] [16,32] 3 7=some (64,A1 [],A1 []):=by kernel_rfl
theorem seen_is (W r pc a b c d e f:Int):pSeen4 16 (A5 W r pc [a,b,c,d,e,f])=some ([0,0,pc,a,b,c,d,e,f,0],0):=by kernel_rfl
theorem view_is (s:HSt) (pc a b c d e f x:Int):view_Gor.j1 s 100 [0,0,pc,a,b,c,d,e,f,0] 0 0 x=some (⟨0,0,x,a,b,c,d,e,f,-1⟩,0,s):=by kernel_rfl
theorem all_is (W r pc a b c d e f:Int):list_All.m 100 (A5 W r pc [a,b,c,d,e,f]) 0 false=some ([],A5 W r pc [a,b,c,d,e,f]):=by kernel_rfl
theorem colour_is (W r pc a b c d e f:Int):pColour 16 (A5 W r pc [a,b,c,d,e,f])=some 0:=by kernel_rfl
theorem obj_is (W r pc a b c d e f:Int):isObj (A5 W r pc [a,b,c,d,e,f]).a 16=true:=by kernel_rfl
theorem view_all {W r pc a b c d e f T:Int} (h:wdB pc=true) (hT:vNum pc=T):view_Gor.m 100 (A5 W r pc [a,b,c,d,e,f]) 16=some (⟨0,0,T,a,b,c,d,e,f,-1⟩,0,A5 W r pc [a,b,c,d,e,f]):=by
  unfold view_Gor.m
  have e1:pNum pc=some T:=by unfold pNum; rw [if_pos h,hT]
  have e0:pNum 0=some 0:=by rfl
  rw [seen_is,bind2_some,if_neg (by decide),if_pos (by rfl),if_pos (by rfl),if_pos (by rfl),show atI [0,0,pc,a,b,c,d,e,f,0] (0:Int)=0 from rfl,show atI [0,0,pc,a,b,c,d,e,f,0] (1:Int)=0 from rfl,show atI [0,0,pc,a,b,c,d,e,f,0] (2:Int)=pc from rfl,e0,bind1_some,bind1_some,e1,bind1_some]
  exact view_is _ pc a b c d e f T
theorem wake_last {k:Nat} {s:HSt} {i w:Int}:OkP (fun r=>r.2.1=0→∃ s',r.2.2=hShade r.1 s') (wake_Wake.m k s i w) (wake_Wake.m k s i w):=by
  have j2:∀ (q5:Su) (q40:Gr) (s76:HSt) (a b c d e f:Int),OkP (fun r=>r.2.1=0→∃ s',r.2.2=hShade r.1 s') (wake_Wake.j2 q5 q40 s76 a b c d e f) (wake_Wake.j2 q5 q40 s76 a b c d e f):=by
    intro q5 q40 s76 a b c d e f
    unfold wake_Wake.j2
    refine .b2 .any fun x y _=>?_
    refine .b1 (Q:=fun r=>r=hShade q5.gor y) ⟨rfl,fun r h=>?_⟩ fun z hz=>?_
    · unfold pShade at h
      split at h
      · injection h with h; exact h.symm
      · cases h
    · exact .yes fun _=>⟨y,hz⟩
  unfold wake_Wake.m
  refine .b2 .any fun q5 x6 _=>?_
  refine .when (fun h=>?_) fun _=>?_
  · exact .yes fun h0=>by rw [show x6=0 from h0] at h; exact absurd h (by decide)
  · refine .b3 .any fun q40 x41 s42 _=>?_
    refine .when (fun h=>?_) fun _=>?_
    · exact .yes fun h0=>by rw [show x41=0 from h0] at h; exact absurd h (by decide)
    · refine .b1 .any fun s76 _=>?_
      have j1:∀ y,OkP (fun r=>r.2.1=0→∃ s',r.2.2=hShade r.1 s') (wake_Wake.j1 w q5 q40 s76 y) (wake_Wake.j1 w q5 q40 s76 y):=by
        intro y
        unfold wake_Wake.j1
        repeat' (first | exact j2 _ _ _ _ _ _ _ _ _ | exact .no | refine .when (fun _=>?_) fun _=>?_)
      exact .when (fun _=>j1 _) fun _=>j1 _
theorem view_same {k:Nat} {s:HSt} {p:Int}:OkP (fun r=>r.2.2=s) (view_Gor.m k s p) (view_Gor.m k s p):=by
  have l2:∀ (L:List Int) (u v w:Int) (f:Nat) (a b c d e g h:Int),OkP (fun r=>r.2.2=s) (view_Gor.l2 s L u v w f a b c d e g h) (view_Gor.l2 s L u v w f a b c d e g h):=by
    intro L u v w f
    induction f with
    | zero=>intros; exact .no
    | succ f ih =>
      intro a b c d e g h
      show OkP _ (view_Gor.l2b s L u v w (view_Gor.l2 s L u v w f) a b c d e g h) (view_Gor.l2b s L u v w (view_Gor.l2 s L u v w f) a b c d e g h)
      unfold view_Gor.l2b
      repeat' (first | exact ih _ _ _ _ _ _ _ | exact .no | exact .yes rfl | refine .when (fun _=>?_) fun _=>?_ | refine .b1 .any fun _ _=>?_)
  unfold view_Gor.m view_Gor.j1
  repeat' (first | exact l2 _ _ _ _ _ _ _ _ _ _ _ _ | exact .no | exact .yes rfl | refine .when (fun _=>?_) fun _=>?_ | refine .b1 .any fun _ _=>?_ | refine .b2 .any fun _ _ _=>?_)
theorem shaded {s:HSt} {p:Int} (h1:s.ph=1) (ho:isObj s.a p=true):hColour (hShade p s) p≠0:=by
  have ha:(hShade p s).a=s.a:=shade_a1 p s
  unfold hColour
  rw [ha,if_pos ho]
  unfold hShade
  split
  · unfold hPush
    split <;> simp [upd]
  · rename_i h
    intro h0
    apply h
    unfold hWhite
    simp [h1,ho,h0]
theorem vI_num {T:Int} (h0:0≤T) (h1:T<1000):vNum (vI T)=T:=by
  have e:vI T=2 * T:=by unfold vI wrap64; omega
  rw [e]; unfold vNum; omega
theorem in4:∀ (s u:HSt),law14_gor.m 100 s u [0] [16,32] 0=some (16,s,u):=fun _ _=>by rfl
theorem ch4:∀ (s u:HSt),law14_ch.m 100 s u [0] [16,32] 0=some (0,s,u):=fun _ _=>by rfl
theorem put_n8 (T:Int):pPutSudogI 64 (⟨16,0,0,-1,T,(-8),-1⟩:Su) (A1 [])=some (0,A2 (vI T) (-16)):=by kernel_rfl
theorem push_n8 (W:Int):list_PushI.m 100 (A2 W (-16)) 0 false 64=some (0,A3 (vI (vNum W)) (-16)):=by kernel_rfl
theorem park_n8 (W:Int):wake_ParkI.m 100 (A3 W (-16)) 16 [64]=some (0,A4 (vI (vNum W)) (-16)):=by kernel_rfl
theorem wake_n8 (W v:Int):wake_WakeI.m 100 (A4 W (-16)) 64 v=some (16,0,A5 (vI (vNum W)) (-16) (vI (vNum W)) [0,0,0,0,0,0]):=by kernel_rfl
theorem put_n7 (T:Int):pPutSudogI 64 (⟨16,0,0,-1,T,(-7),-1⟩:Su) (A1 [])=some (0,A2 (vI T) (-14)):=by kernel_rfl
theorem push_n7 (W:Int):list_PushI.m 100 (A2 W (-14)) 0 false 64=some (0,A3 (vI (vNum W)) (-14)):=by kernel_rfl
theorem park_n7 (W:Int):wake_ParkI.m 100 (A3 W (-14)) 16 [64]=some (0,A4 (vI (vNum W)) (-14)):=by kernel_rfl
theorem wake_n7 (W v:Int):wake_WakeI.m 100 (A4 W (-14)) 64 v=some (16,0,A5 (vI (vNum W)) (-14) (vI (vNum W)) [0,0,0,0,0,0]):=by kernel_rfl
theorem put_n6 (T:Int):pPutSudogI 64 (⟨16,0,0,-1,T,(-6),-1⟩:Su) (A1 [])=some (0,A2 (vI T) (-12)):=by kernel_rfl
theorem push_n6 (W:Int):list_PushI.m 100 (A2 W (-12)) 0 false 64=some (0,A3 (vI (vNum W)) (-12)):=by kernel_rfl
theorem park_n6 (W:Int):wake_ParkI.m 100 (A3 W (-12)) 16 [64]=some (0,A4 (vI (vNum W)) (-12)):=by kernel_rfl
theorem wake_n6 (W v:Int):wake_WakeI.m 100 (A4 W (-12)) 64 v=some (16,0,A5 (vI (vNum W)) (-12) (vI (vNum W)) [0,0,0,0,0,0]):=by kernel_rfl
theorem put_n5 (T:Int):pPutSudogI 64 (⟨16,0,0,-1,T,(-5),-1⟩:Su) (A1 [])=some (0,A2 (vI T) (-10)):=by kernel_rfl
theorem push_n5 (W:Int):list_PushI.m 100 (A2 W (-10)) 0 false 64=some (0,A3 (vI (vNum W)) (-10)):=by kernel_rfl
theorem park_n5 (W:Int):wake_ParkI.m 100 (A3 W (-10)) 16 [64]=some (0,A4 (vI (vNum W)) (-10)):=by kernel_rfl
theorem wake_n5 (W v:Int):wake_WakeI.m 100 (A4 W (-10)) 64 v=some (16,0,A5 (vI (vNum W)) (-10) (vI (vNum W)) [0,0,0,0,0,0]):=by kernel_rfl
theorem put_n4 (T:Int):pPutSudogI 64 (⟨16,0,0,-1,T,(-4),-1⟩:Su) (A1 [])=some (0,A2 (vI T) (-8)):=by kernel_rfl
theorem push_n4 (W:Int):list_PushI.m 100 (A2 W (-8)) 0 false 64=some (0,A3 (vI (vNum W)) (-8)):=by kernel_rfl
theorem park_n4 (W:Int):wake_ParkI.m 100 (A3 W (-8)) 16 [64]=some (0,A4 (vI (vNum W)) (-8)):=by kernel_rfl
theorem wake_n4 (W v:Int):wake_WakeI.m 100 (A4 W (-8)) 64 v=some (16,0,A5 (vI (vNum W)) (-8) (vI (vNum W)) [0,0,0,0,0,0]):=by kernel_rfl
theorem put_n3 (T:Int):pPutSudogI 64 (⟨16,0,0,-1,T,(-3),-1⟩:Su) (A1 [])=some (0,A2 (vI T) (-6)):=by kernel_rfl
theorem push_n3 (W:Int):list_PushI.m 100 (A2 W (-6)) 0 false 64=some (0,A3 (vI (vNum W)) (-6)):=by kernel_rfl
theorem park_n3 (W:Int):wake_ParkI.m 100 (A3 W (-6)) 16 [64]=some (0,A4 (vI (vNum W)) (-6)):=by kernel_rfl
theorem wake_n3 (W v:Int):wake_WakeI.m 100 (A4 W (-6)) 64 v=some (16,0,A5 (vI (vNum W)) (-6) (vI (vNum W)) [0,0,0,0,0,0]):=by kernel_rfl
theorem put_n2 (T:Int):pPutSudogI 64 (⟨16,0,0,-1,T,(-2),-1⟩:Su) (A1 [])=some (0,A2 (vI T) (-4)):=by kernel_rfl
theorem push_n2 (W:Int):list_PushI.m 100 (A2 W (-4)) 0 false 64=some (0,A3 (vI (vNum W)) (-4)):=by kernel_rfl
theorem park_n2 (W:Int):wake_ParkI.m 100 (A3 W (-4)) 16 [64]=some (0,A4 (vI (vNum W)) (-4)):=by kernel_rfl
theorem wake_n2 (W v:Int):wake_WakeI.m 100 (A4 W (-4)) 64 v=some (16,0,A5 (vI (vNum W)) (-4) (vI (vNum W)) [0,0,0,0,0,0]):=by kernel_rfl
theorem put_n1 (T:Int):pPutSudogI 64 (⟨16,0,0,-1,T,(-1),-1⟩:Su) (A1 [])=some (0,A2 (vI T) (-2)):=by kernel_rfl
theorem push_n1 (W:Int):list_PushI.m 100 (A2 W (-2)) 0 false 64=some (0,A3 (vI (vNum W)) (-2)):=by kernel_rfl
theorem park_n1 (W:Int):wake_ParkI.m 100 (A3 W (-2)) 16 [64]=some (0,A4 (vI (vNum W)) (-2)):=by kernel_rfl
theorem wake_n1 (W v:Int):wake_WakeI.m 100 (A4 W (-2)) 64 v=some (16,0,A5 (vI (vNum W)) (-2) (vI (vNum W)) [0,0,0,0,0,0]):=by kernel_rfl
theorem put_p0 (T:Int):pPutSudogI 64 (⟨16,0,0,-1,T,0,-1⟩:Su) (A1 [])=some (0,A2 (vI T) 0):=by kernel_rfl
theorem push_p0 (W:Int):list_PushI.m 100 (A2 W 0) 0 false 64=some (0,A3 (vI (vNum W)) 0):=by kernel_rfl
theorem park_p0 (W:Int):wake_ParkI.m 100 (A3 W 0) 16 [64]=some (0,A4 (vI (vNum W)) 0):=by kernel_rfl
theorem wake_p0 (W v:Int):wake_WakeI.m 100 (A4 W 0) 64 v=some (16,0,A5 (vI (vNum W)) 0 (vI (vNum W)) [v,0,0,0,0,0]):=by kernel_rfl
theorem put_p1 (T:Int):pPutSudogI 64 (⟨16,0,0,-1,T,1,-1⟩:Su) (A1 [])=some (0,A2 (vI T) 2):=by kernel_rfl
theorem push_p1 (W:Int):list_PushI.m 100 (A2 W 2) 0 false 64=some (0,A3 (vI (vNum W)) 2):=by kernel_rfl
theorem park_p1 (W:Int):wake_ParkI.m 100 (A3 W 2) 16 [64]=some (0,A4 (vI (vNum W)) 2):=by kernel_rfl
theorem wake_p1 (W v:Int):wake_WakeI.m 100 (A4 W 2) 64 v=some (16,0,A5 (vI (vNum W)) 2 (vI (vNum W)) [0,v,0,0,0,0]):=by kernel_rfl
theorem put_p2 (T:Int):pPutSudogI 64 (⟨16,0,0,-1,T,2,-1⟩:Su) (A1 [])=some (0,A2 (vI T) 4):=by kernel_rfl
theorem push_p2 (W:Int):list_PushI.m 100 (A2 W 4) 0 false 64=some (0,A3 (vI (vNum W)) 4):=by kernel_rfl
theorem park_p2 (W:Int):wake_ParkI.m 100 (A3 W 4) 16 [64]=some (0,A4 (vI (vNum W)) 4):=by kernel_rfl
theorem wake_p2 (W v:Int):wake_WakeI.m 100 (A4 W 4) 64 v=some (16,0,A5 (vI (vNum W)) 4 (vI (vNum W)) [0,0,v,0,0,0]):=by kernel_rfl
theorem put_p3 (T:Int):pPutSudogI 64 (⟨16,0,0,-1,T,3,-1⟩:Su) (A1 [])=some (0,A2 (vI T) 6):=by kernel_rfl
theorem push_p3 (W:Int):list_PushI.m 100 (A2 W 6) 0 false 64=some (0,A3 (vI (vNum W)) 6):=by kernel_rfl
theorem park_p3 (W:Int):wake_ParkI.m 100 (A3 W 6) 16 [64]=some (0,A4 (vI (vNum W)) 6):=by kernel_rfl
theorem wake_p3 (W v:Int):wake_WakeI.m 100 (A4 W 6) 64 v=some (16,0,A5 (vI (vNum W)) 6 (vI (vNum W)) [0,0,0,v,0,0]):=by kernel_rfl
theorem put_p4 (T:Int):pPutSudogI 64 (⟨16,0,0,-1,T,4,-1⟩:Su) (A1 [])=some (0,A2 (vI T) 8):=by kernel_rfl
theorem push_p4 (W:Int):list_PushI.m 100 (A2 W 8) 0 false 64=some (0,A3 (vI (vNum W)) 8):=by kernel_rfl
theorem park_p4 (W:Int):wake_ParkI.m 100 (A3 W 8) 16 [64]=some (0,A4 (vI (vNum W)) 8):=by kernel_rfl
theorem wake_p4 (W v:Int):wake_WakeI.m 100 (A4 W 8) 64 v=some (16,0,A5 (vI (vNum W)) 8 (vI (vNum W)) [0,0,0,0,v,0]):=by kernel_rfl
theorem put_p5 (T:Int):pPutSudogI 64 (⟨16,0,0,-1,T,5,-1⟩:Su) (A1 [])=some (0,A2 (vI T) 10):=by kernel_rfl
theorem push_p5 (W:Int):list_PushI.m 100 (A2 W 10) 0 false 64=some (0,A3 (vI (vNum W)) 10):=by kernel_rfl
theorem park_p5 (W:Int):wake_ParkI.m 100 (A3 W 10) 16 [64]=some (0,A4 (vI (vNum W)) 10):=by kernel_rfl
theorem wake_p5 (W v:Int):wake_WakeI.m 100 (A4 W 10) 64 v=some (16,0,A5 (vI (vNum W)) 10 (vI (vNum W)) [0,0,0,0,0,v]):=by kernel_rfl
theorem put_p6 (T:Int):pPutSudogI 64 (⟨16,0,0,-1,T,6,-1⟩:Su) (A1 [])=some (0,A2 (vI T) 12):=by kernel_rfl
theorem push_p6 (W:Int):list_PushI.m 100 (A2 W 12) 0 false 64=some (0,A3 (vI (vNum W)) 12):=by kernel_rfl
theorem park_p6 (W:Int):wake_ParkI.m 100 (A3 W 12) 16 [64]=some (0,A4 (vI (vNum W)) 12):=by kernel_rfl
theorem wake_p6 (W v:Int):wake_WakeI.m 100 (A4 W 12) 64 v=some (16,0,A5 (vI (vNum W)) 12 (vI (vNum W)) [0,0,0,0,0,0]):=by kernel_rfl
theorem put_p7 (T:Int):pPutSudogI 64 (⟨16,0,0,-1,T,7,-1⟩:Su) (A1 [])=some (0,A2 (vI T) 14):=by kernel_rfl
theorem push_p7 (W:Int):list_PushI.m 100 (A2 W 14) 0 false 64=some (0,A3 (vI (vNum W)) 14):=by kernel_rfl
theorem park_p7 (W:Int):wake_ParkI.m 100 (A3 W 14) 16 [64]=some (0,A4 (vI (vNum W)) 14):=by kernel_rfl
theorem wake_p7 (W v:Int):wake_WakeI.m 100 (A4 W 14) 64 v=some (16,0,A5 (vI (vNum W)) 14 (vI (vNum W)) [0,0,0,0,0,0]):=by kernel_rfl
theorem put_p8 (T:Int):pPutSudogI 64 (⟨16,0,0,-1,T,8,-1⟩:Su) (A1 [])=some (0,A2 (vI T) 16):=by kernel_rfl
theorem push_p8 (W:Int):list_PushI.m 100 (A2 W 16) 0 false 64=some (0,A3 (vI (vNum W)) 16):=by kernel_rfl
theorem park_p8 (W:Int):wake_ParkI.m 100 (A3 W 16) 16 [64]=some (0,A4 (vI (vNum W)) 16):=by kernel_rfl
theorem wake_p8 (W v:Int):wake_WakeI.m 100 (A4 W 16) 64 v=some (16,0,A5 (vI (vNum W)) 16 (vI (vNum W)) [0,0,0,0,0,0]):=by kernel_rfl
theorem tail_is {i2 T r:Int} {s u:HSt} {y:Bool} {q:Gr} {col:Int} (hv:view_Gor.m 100 s 16=some (q,0,s)) (hpc:q.pc=T) (hc:pColour 16 s=some col) (hcol:((col == 0) == (!y))=true) {sl:HSt} (hl:list_All.m 100 s 0 false=some ([],sl)) (hr:[q.a,q.b,q.c,q.d,q.e,q.f]=(List.range 6).map fun (i:Nat)=>if (i:Int)=r then i2 else 0) (e:Int) (he:e=0) :
    (bind3 (view_Gor.m 100 s 16) fun q185 x186 s187=>WakeRegs.l6 i2 100 r T [0] [16,32] u y 16 e q185 x186 s187 100 0)=some true:=by
  subst he
  rw [hv,bind3_some]
  have key:∀ (d i f:Nat),i+d=6→d<f→WakeRegs.l6 i2 100 r T [0] [16,32] u y 16 0 q 0 s f (i:Int)=some true:=by
    intro d
    induction d with
    | zero =>
      intro i f hi hf
      obtain ⟨f,rfl⟩:∃ g,f=g+1:=⟨f - 1,by omega⟩
      show WakeRegs.l6b i2 100 r T [0] [16,32] u y 16 0 q 0 s (WakeRegs.l6 i2 100 r T [0] [16,32] u y 16 0 q 0 s f) (i:Int)=some true
      unfold WakeRegs.l6b
      rw [if_neg (by simp; omega),if_pos (by decide),if_pos (by decide),if_pos (by simp [hpc]),hc,bind1_some,if_pos hcol,ch4,bind3_some,hl,bind2_some]
      rfl
    | succ d ih =>
      intro i f hi hf
      obtain ⟨f,rfl⟩:∃ g,f=g+1:=⟨f - 1,by omega⟩
      have ih:=ih (i+1) f (by omega) (by omega)
      have hat:atI [q.a,q.b,q.c,q.d,q.e,q.f] (i:Int)=if (i:Int)=r then i2 else 0:=by
        rw [hr]
        unfold Go.Proofs.YtaojmbkmicjecaaGreat.atI
        rw [List.getD_eq_getElem?_getD]
        simp only [Int.toNat_natCast,List.getElem?_map,List.getElem?_range (show i<6 by omega),Option.map_some,Option.getD_some]
      have hj:IntKind.i64.wrap ((i:Int)+1)=((i+1:Nat):Int):=by rw [IntKind.wrap_i64]; omega
      show WakeRegs.l6b i2 100 r T [0] [16,32] u y 16 0 q 0 s (WakeRegs.l6 i2 100 r T [0] [16,32] u y 16 0 q 0 s f) (i:Int)=some true
      unfold WakeRegs.l6b
      rw [if_pos (by simp; omega)]
      unfold WakeRegs.j7
      by_cases hir:(i:Int)=r
      · rw [if_pos (by simpa using hir),if_pos (by simp [inR]; omega),hat,if_pos hir,if_neg (by simp),hj]; exact ih
      · rw [if_neg (by simpa using hir),if_pos (by simp [inR]; omega),hat,if_neg hir,if_neg (by simp),hj]; exact ih
  exact key 6 0 100 (by omega) (by omega)
theorem one {i0 i1 i2 T r r2 a b c d e f:Int} {i3:Bool} (h0:Int.tmod i0 9=r) (h1:IntKind.i64.wrap (Int.tmod (IntKind.u64.wrap i1) 100)=T) (hT0:0≤T) (hT1:T<1000) (hv:wdB i2=true) (haw:law14_awake.m 100=some true)
    (k1:pPutSudogI 64 (⟨16,0,0,-1,T,r,-1⟩:Su) (A1 [])=some (0,A2 (vI T) r2)) (k2:list_PushI.m 100 (A2 (vI T) r2) 0 false 64=some (0,A3 (vI (vNum (vI T))) r2)) (k3:wake_ParkI.m 100 (A3 (vI T) r2) 16 [64]=some (0,A4 (vI (vNum (vI T))) r2)) (k4:wake_WakeI.m 100 (A4 (vI T) r2) 64 i2=some (16,0,A5 (vI (vNum (vI T))) r2 (vI (vNum (vI T))) [a,b,c,d,e,f]))
    (hr:[a,b,c,d,e,f]=(List.range 6).map fun (i:Nat)=>if (i:Int)=r then i2 else 0):WakeRegs.m 100 i0 i1 i2 i3=some true:=by
  rw [vI_num hT0 hT1] at k2 k3 k4
  obtain ⟨I0,_⟩:=(law14_made.m_ok (k:=100)).2 _ made_is
  have ea:=(law14_alloc.m_ok (k:=100) (Lc0:=[0]) (Lg0:=[16,32]) (i1:=3) (i2:=7) I0 I0)
  have ea1:=ea.1.symm.trans alloc_is
  obtain ⟨I1,_⟩:=ea.2 _ ea1
  have p:=pPutSudog_ok (p:=64) (c:=(⟨16,0,0,-1,T,r,-1⟩:Su)) I1 (show wdB (0:Int)=true from rfl)
  have p1:=p.1.symm.trans k1
  have I2:=p.2 _ p1
  have s:=list_Push.m_ok (k:=100) (i1:=0) (i2:=false) (i3:=64) I2
  have s1:=s.1.symm.trans k2
  have I3:=s.2 _ s1
  have t:=wake_Park.m_ok (k:=100) (i1:=16) (L2:=[64]) I3
  have t1:=t.1.symm.trans k3
  have I4:=t.2 _ t1
  have w:=wake_Wake.m_ok (k:=100) (i1:=64) I4 hv
  have w1:=w.1.symm.trans k4
  have hview:=view_all (W:=vI T) (r:=r2) (a:=a) (b:=b) (c:=c) (d:=d) (e:=e) (f:=f) (wdB_of (vI_wd T)) (vI_num hT0 hT1)
  unfold WakeRegs.m
  rw [h0,h1,bind1_some,bind1_some,made_is,bind4_some,haw,bind1_some,if_neg (by decide)]
  unfold WakeRegs.j1
  rw [if_neg (by decide),ea1,bind3_some,in4,bind3_some,ch4,bind3_some,p1,bind2_some,ch4,bind3_some,s1,bind2_some,in4,bind3_some,t1,bind2_some]
  unfold WakeRegs.j2
  cases i3 with
  | false =>
    rw [if_neg (by decide)]
    unfold WakeRegs.j3
    rw [w1,bind3_some]
    exact tail_is hview rfl (colour_is _ _ _ _ _ _ _ _ _) (by decide) (all_is _ _ _ _ _ _ _ _ _) hr 0 rfl
  | true =>
    rw [if_pos rfl]
    have hb:∃ e',pBegin (A4 (vI T) r2) []=some (e',hBegin [] (A4 (vI T) r2)):=⟨_,rfl⟩
    obtain ⟨e',hb⟩:=hb
    rw [hb,bind2_some]
    unfold WakeRegs.j3
    have S0:Sim (hBegin [] (A4 (vI T) r2)) (A4 (vI T) r2):=⟨by rfl,by rfl⟩
    have sw:=wake_Wake.m_sim (k:=100) (i1:=64) (i2:=i2) S0
    rw [w1] at sw
    have hlast:=(wake_last (k:=100) (s:=hBegin [] (A4 (vI T) r2)) (i:=64) (w:=i2)).2
    cases hw:wake_Wake.m 100 (hBegin [] (A4 (vI T) r2)) 64 i2 with
    | none=>rw [hw] at sw; cases sw
    | some x =>
      obtain ⟨g,er,s2⟩:=x
      rw [hw] at sw
      obtain ⟨eg,ee,S2⟩:=sw.out
      have eg:g=16:=eg
      have ee:er=0:=ee
      subst eg; subst ee
      have S2:Sim s2 (A5 (vI T) r2 (vI T) [a,b,c,d,e,f]):=S2
      obtain ⟨s',hs'⟩:=hlast _ hw rfl
      have hs':s2=hShade 16 s':=hs'
      rw [bind3_some]
      have hvs:=view_Gor.m_sim (k:=100) (i1:=16) S2
      rw [hview] at hvs
      have hls:=list_All.m_sim (k:=100) (i1:=0) (i2:=false) S2
      rw [all_is] at hls
      have hobj:isObj s2.a 16=true:=by rw [S2.1]; exact obj_is _ _ _ _ _ _ _ _ _
      have hcol:hColour s2 16≠0:=by
        rw [hs'] at hobj ⊢
        have hp:s'.ph=1:=by have:=S2.2; rw [hs',shade_ph] at this; exact this
        exact shaded hp (by rw [shade_a1] at hobj; exact hobj)
      cases hv2:view_Gor.m 100 s2 16 with
      | none=>rw [hv2] at hvs; cases hvs
      | some y =>
        obtain ⟨q,e2,s3⟩:=y
        rw [hv2] at hvs
        obtain ⟨eq,e2',_⟩:=hvs.out
        replace eq:q=⟨0,0,T,a,b,c,d,e,f,-1⟩:=eq
        have e2':e2=0:=e2'
        have e3:s3=s2:=view_same.2 _ hv2
        subst e2'; subst e3; subst eq
        cases hl2:list_All.m 100 s3 0 false with
        | none=>rw [hl2] at hls; cases hls
        | some z =>
          obtain ⟨Lz,sz⟩:=z
          rw [hl2] at hls
          have eL:Lz=[]:=hls.out.1
          subst eL
          have hcl:pColour 16 s3=some (hColour s3 16):=by unfold pColour; rw [if_pos (by decide)]
          rw [← hv2]
          exact tail_is hv2 rfl hcl (by simp [hcol]) hl2 hr 0 rfl
end wr
end Go.Proofs.YtaojmbkmicjecaaGreat
