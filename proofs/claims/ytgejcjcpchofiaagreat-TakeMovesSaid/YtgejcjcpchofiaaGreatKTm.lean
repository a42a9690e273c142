/- Tm -/
import Derived.Test.YtgejcjcpchofiaaGreatKG16
import Derived.Test.YtgejcjcpchofiaaGreatKTw16
import Derived.Test.YtgejcjcpchofiaaGreatKPrimV
import Derived.KernelRfl
namespace Go.Proofs.YtgejcjcpchofiaaGreat
open Go.RowKit
set_option linter.unusedVariables false
set_option maxRecDepth 100000
namespace tm
section
variable {K:List Int} {k f:Nat} {x5 i j:Int} {s u s' s1 s2 u1:HSt} {qc:Ch} {qg:Gr}
theorem ch16 (k:Nat) (s u:HSt):law16_ch.m k s u [0] [16] 0=some (0,s,u):=by rfl
theorem gor16 (k:Nat) (s u:HSt):law16_gor.m k s u [0] [16] 0=some (16,s,u):=by rfl
theorem l2_step (h1:decide (i<x5)=true) (h2:inR i K.length=true) (h3:send_Try.m k s (IntKind.i64.wrap ((IntKind.i64.wrap (2 * 0))+1)) (atI K i)=some (-1,1,s')) (hj:IntKind.i64.wrap (i+1)=j):TakeMoves.l2 K k x5 [0] [16] (f+1) s u i=TakeMoves.l2 K k x5 [0] [16] f s' u j:=by
  show TakeMoves.l2b K k x5 [0] [16] (TakeMoves.l2 K k x5 [0] [16] f) s u i=_
  unfold TakeMoves.l2b
  rw [if_pos h1,if_pos h2,ch16,bind3_some,h3,bind3_some,hj]
theorem l2_end (h1:decide (i<x5)=false) (h2:inR x5 K.length=true) (h0:inR 0 K.length=true) (hw:law16_wait.m k s u [0] [16] 16 [0] [true] (atI K x5) 9=some (true,s1,u1)) (ht:take_Try.m k s1 (IntKind.i64.wrap ((IntKind.i64.wrap (2 * 0))+1))=some (atI K 0,16,1,s2)) (hp:pChan 0 s2=some (qc,0)) (hc:qc.count=x5) (hv:view_Gor.m k s2 16=some (qg,0,s2)) (hg:qg.pc=9) (hg2:qg.status=0) (hl:list_All.m k s2 0 true=some ([],s2)):TakeMoves.l2 K k x5 [0] [16] (f+1) s u i=some true:=by
  show TakeMoves.l2b K k x5 [0] [16] (TakeMoves.l2 K k x5 [0] [16] f) s u i=_
  unfold TakeMoves.l2b
  rw [if_neg (by rw [h1]; decide),if_pos h2,gor16,bind3_some,ch16,bind3_some,hw,bind3_some]
  unfold TakeMoves.j3
  rw [if_neg (by decide),ch16,bind3_some,ht,bind4_some,ch16,bind3_some,hp,bind2_some]
  unfold TakeMoves.j4
  rw [gor16,bind3_some,hv,bind3_some]
  unfold TakeMoves.j5
  rw [if_pos h0,if_pos (by simp),gor16,bind3_some,if_pos (by decide),if_pos (by decide),if_pos (by decide),if_pos (by simp [hc]),if_pos (by decide),if_pos (by simp [hg]),if_pos (by simp [hg2]),ch16,bind3_some,hl,bind2_some]
  rfl
end
def P1_0 (w0 w1:Int):HSt:=stL [(2,[true,true]),(0,[true,false,false,false,false,false,false,false])] 58 [(0,1,9,[2,0,0,0,65,0,0,0,0]),(6,4,10,[0,0,0,0,0,0,0,0,0,0]),(5,2,1,[0])] 1886 [16,32,0]
def U1_0 (w0 w1:Int):HSt:=stL [(2,[true,true]),(0,[true,false,false,false,false,false,false,false])] 58 [(0,1,9,[2,0,0,0,65,0,0,0,0]),(6,4,10,[0,0,0,0,0,0,0,0,0,0]),(5,2,1,[0])] 1886 [16,32,0]
theorem m1 (w0 w1:Int):law16_made.m 100 [1] 0=some (P1_0 w0 w1,U1_0 w0 w1,[0],[16]):=by kernel_rfl
def P1_1 (w0 w1:Int):HSt:=stL [(2,[true,true]),(0,[true,false,false,false,false,false,false,false])] 58 [(0,1,9,[2,0,2,0,65,0,0,0,0]),(6,4,10,[0,0,0,0,0,0,0,0,0,0]),(5,2,1,[w0])] 1886 [16,32,0]
theorem s1_0 (w0 w1:Int):send_TryI.m 100 (P1_0 w0 w1) (IntKind.i64.wrap ((IntKind.i64.wrap (2 * 0))+1)) w0=some (-1,1,P1_1 w0 w1):=by kernel_rfl
def P1_2 (w0 w1:Int):HSt:=stL [(2,[true,true]),(0,[true,false,false,false,false,false,false,false]),(1,[true,false,false,false])] 57 [(0,1,9,[2,0,2,0,65,0,0,129,129]),(6,4,10,[0,2,0,0,0,0,0,0,0,129]),(5,2,1,[w0]),(30,3,7,[33,1,w1,0,18,(-2),0])] 1848 [64,16,32,0]
def U1_1 (w0 w1:Int):HSt:=stL [(2,[true,true]),(0,[true,false,false,false,false,false,false,false]),(1,[true,false,false,false])] 57 [(0,1,9,[2,0,0,0,65,0,0,129,129]),(6,4,10,[0,2,0,0,0,0,0,0,0,129]),(5,2,1,[0]),(30,3,7,[33,1,w1,0,18,(-2),0])] 1848 [64,16,32,0]
theorem t1_1 (w0 w1:Int):law16_waitI.m 100 (P1_1 w0 w1) (U1_0 w0 w1) [0] [16] 16 [0] [true] w1 9=some (true,P1_2 w0 (wV w1),U1_1 w0 (wV w1)):=by kernel_rfl
def P1_3 (w0 w1:Int):HSt:=stL [(2,[true,true]),(0,[true,false,false,false,false,false,false,false]),(1,[true,false,false,false])] 57 [(0,1,9,[2,0,2,0,65,0,0,0,0]),(6,4,10,[0,0,18,0,0,0,0,0,0,0]),(5,2,1,[w1]),(30,3,7,[33,1,w1,0,18,(-2),0])] 1848 [64,16,32,0]
theorem k1_2 (w0 w1:Int):take_TryI.m 100 (P1_2 w0 w1) (IntKind.i64.wrap ((IntKind.i64.wrap (2 * 0))+1))=some (w0,16,1,P1_3 w0 w1):=by kernel_rfl
theorem v1 (w0 w1:Int):pChan 0 (P1_3 w0 w1)=some (⟨1,0,1,0,32,-1,-1,-1,-1⟩,0):=by kernel_rfl
theorem g1 (w0 w1:Int):view_Gor.m 100 (P1_3 w0 w1) 16=some (⟨0,0,9,0,0,0,0,0,0,-1⟩,0,P1_3 w0 w1):=by kernel_rfl
theorem a1 (w0 w1:Int):list_All.m 100 (P1_3 w0 w1) 0 true=some ([],P1_3 w0 w1):=by kernel_rfl
theorem c1 {K:List Int} (hK:AllW K) (h5:5≤K.length):TakeMoves.l2 K 100 1 [0] [16] 100 (P1_0 (atI K 0) (atI K 1)) (U1_0 (atI K 0) (atI K 1)) 0=some true:=by
  have hw0:wdB (atI K 0)=true:=hK.at _
  have hw1:wdB (atI K 1)=true:=hK.at _
  obtain ⟨i0,v0⟩:=(law16_made.m_ok (k:=100)).2 _ (m1 (atI K 0) (atI K 1))
  have a0:=send_Try.m_ok (k:=100) (i1:=(IntKind.i64.wrap ((IntKind.i64.wrap (2 * 0))+1))) i0 hw0
  have e0:=a0.1.symm.trans (s1_0 (atI K 0) (atI K 1))
  have i1:=a0.2 _ e0
  have b0:=law16_wait.m_ok (k:=100) (Lc0:=[0]) (Lg0:=[16]) (i1:=16) (L2:=[0]) (L3:=[true]) (i4:=atI K 1) (i5:=9) i1 v0
  have f0:=b0.1.symm.trans (t1_1 (atI K 0) (atI K 1))
  rw [wV_eq hw1] at f0
  obtain ⟨i2,_⟩:=b0.2 _ f0
  have a2:=take_Try.m_ok (k:=100) (i1:=(IntKind.i64.wrap ((IntKind.i64.wrap (2 * 0))+1))) i2
  have e2:=a2.1.symm.trans (k1_2 (atI K 0) (atI K 1))
  rw [l2_step (j:=1) (by decide) (inR_of h5 0 (by decide) (by decide)) e0 (by decide)]
  exact l2_end (by decide) (inR_of h5 1 (by decide) (by decide)) (inR_of h5 0 (by decide) (by decide)) f0 e2 (v1 (atI K 0) (atI K 1)) rfl (g1 (atI K 0) (atI K 1)) rfl rfl (a1 (atI K 0) (atI K 1))
def P2_0 (w0 w1 w2:Int):HSt:=stL [(2,[true,true]),(0,[true,false,false,false,false,false,false,false])] 58 [(0,1,9,[4,0,0,0,65,0,0,0,0]),(6,4,10,[0,0,0,0,0,0,0,0,0,0]),(5,2,2,[0,0])] 1885 [16,32,0]
def U2_0 (w0 w1 w2:Int):HSt:=stL [(2,[true,true]),(0,[true,false,false,false,false,false,false,false])] 58 [(0,1,9,[4,0,0,0,65,0,0,0,0]),(6,4,10,[0,0,0,0,0,0,0,0,0,0]),(5,2,2,[0,0])] 1885 [16,32,0]
theorem m2 (w0 w1 w2:Int):law16_made.m 100 [2] 0=some (P2_0 w0 w1 w2,U2_0 w0 w1 w2,[0],[16]):=by kernel_rfl
def P2_1 (w0 w1 w2:Int):HSt:=stL [(2,[true,true]),(0,[true,false,false,false,false,false,false,false])] 58 [(0,1,9,[4,0,2,0,65,0,0,0,0]),(6,4,10,[0,0,0,0,0,0,0,0,0,0]),(5,2,2,[w0,0])] 1885 [16,32,0]
theorem s2_0 (w0 w1 w2:Int):send_TryI.m 100 (P2_0 w0 w1 w2) (IntKind.i64.wrap ((IntKind.i64.wrap (2 * 0))+1)) w0=some (-1,1,P2_1 w0 w1 w2):=by kernel_rfl
def P2_2 (w0 w1 w2:Int):HSt:=stL [(2,[true,true]),(0,[true,false,false,false,false,false,false,false])] 58 [(0,1,9,[4,0,4,0,65,0,0,0,0]),(6,4,10,[0,0,0,0,0,0,0,0,0,0]),(5,2,2,[w0,w1])] 1885 [16,32,0]
theorem s2_1 (w0 w1 w2:Int):send_TryI.m 100 (P2_1 w0 w1 w2) (IntKind.i64.wrap ((IntKind.i64.wrap (2 * 0))+1)) w1=some (-1,1,P2_2 w0 w1 w2):=by kernel_rfl
def P2_3 (w0 w1 w2:Int):HSt:=stL [(2,[true,true]),(0,[true,false,false,false,false,false,false,false]),(1,[true,false,false,false])] 57 [(0,1,9,[4,0,4,0,65,0,0,129,129]),(6,4,10,[0,2,0,0,0,0,0,0,0,129]),(5,2,2,[w0,w1]),(29,3,7,[33,1,w2,0,18,(-2),0])] 1848 [64,16,32,0]
def U2_1 (w0 w1 w2:Int):HSt:=stL [(2,[true,true]),(0,[true,false,false,false,false,false,false,false]),(1,[true,false,false,false])] 57 [(0,1,9,[4,0,0,0,65,0,0,129,129]),(6,4,10,[0,2,0,0,0,0,0,0,0,129]),(5,2,2,[0,0]),(29,3,7,[33,1,w2,0,18,(-2),0])] 1848 [64,16,32,0]
theorem t2_2 (w0 w1 w2:Int):law16_waitI.m 100 (P2_2 w0 w1 w2) (U2_0 w0 w1 w2) [0] [16] 16 [0] [true] w2 9=some (true,P2_3 w0 w1 (wV w2),U2_1 w0 w1 (wV w2)):=by kernel_rfl
def P2_4 (w0 w1 w2:Int):HSt:=stL [(2,[true,true]),(0,[true,false,false,false,false,false,false,false]),(1,[true,false,false,false])] 57 [(0,1,9,[4,0,4,2,65,0,0,0,0]),(6,4,10,[0,0,18,0,0,0,0,0,0,0]),(5,2,2,[w2,w1]),(29,3,7,[33,1,w2,0,18,(-2),0])] 1848 [64,16,32,0]
theorem k2_3 (w0 w1 w2:Int):take_TryI.m 100 (P2_3 w0 w1 w2) (IntKind.i64.wrap ((IntKind.i64.wrap (2 * 0))+1))=some (w0,16,1,P2_4 w0 w1 w2):=by kernel_rfl
theorem v2 (w0 w1 w2:Int):pChan 0 (P2_4 w0 w1 w2)=some (⟨2,0,2,1,32,-1,-1,-1,-1⟩,0):=by kernel_rfl
theorem g2 (w0 w1 w2:Int):view_Gor.m 100 (P2_4 w0 w1 w2) 16=some (⟨0,0,9,0,0,0,0,0,0,-1⟩,0,P2_4 w0 w1 w2):=by kernel_rfl
theorem a2 (w0 w1 w2:Int):list_All.m 100 (P2_4 w0 w1 w2) 0 true=some ([],P2_4 w0 w1 w2):=by kernel_rfl
theorem c2 {K:List Int} (hK:AllW K) (h5:5≤K.length):TakeMoves.l2 K 100 2 [0] [16] 100 (P2_0 (atI K 0) (atI K 1) (atI K 2)) (U2_0 (atI K 0) (atI K 1) (atI K 2)) 0=some true:=by
  have hw0:wdB (atI K 0)=true:=hK.at _
  have hw1:wdB (atI K 1)=true:=hK.at _
  have hw2:wdB (atI K 2)=true:=hK.at _
  obtain ⟨i0,v0⟩:=(law16_made.m_ok (k:=100)).2 _ (m2 (atI K 0) (atI K 1) (atI K 2))
  have a0:=send_Try.m_ok (k:=100) (i1:=(IntKind.i64.wrap ((IntKind.i64.wrap (2 * 0))+1))) i0 hw0
  have e0:=a0.1.symm.trans (s2_0 (atI K 0) (atI K 1) (atI K 2))
  have i1:=a0.2 _ e0
  have a1:=send_Try.m_ok (k:=100) (i1:=(IntKind.i64.wrap ((IntKind.i64.wrap (2 * 0))+1))) i1 hw1
  have e1:=a1.1.symm.trans (s2_1 (atI K 0) (atI K 1) (atI K 2))
  have i2:=a1.2 _ e1
  have b0:=law16_wait.m_ok (k:=100) (Lc0:=[0]) (Lg0:=[16]) (i1:=16) (L2:=[0]) (L3:=[true]) (i4:=atI K 2) (i5:=9) i2 v0
  have f0:=b0.1.symm.trans (t2_2 (atI K 0) (atI K 1) (atI K 2))
  rw [wV_eq hw2] at f0
  obtain ⟨i3,_⟩:=b0.2 _ f0
  have a3:=take_Try.m_ok (k:=100) (i1:=(IntKind.i64.wrap ((IntKind.i64.wrap (2 * 0))+1))) i3
  have e3:=a3.1.symm.trans (k2_3 (atI K 0) (atI K 1) (atI K 2))
  rw [l2_step (j:=1) (by decide) (inR_of h5 0 (by decide) (by decide)) e0 (by decide)]
  rw [l2_step (j:=2) (by decide) (inR_of h5 1 (by decide) (by decide)) e1 (by decide)]
  exact l2_end (by decide) (inR_of h5 2 (by decide) (by decide)) (inR_of h5 0 (by decide) (by decide)) f0 e3 (v2 (atI K 0) (atI K 1) (atI K 2)) rfl (g2 (atI K 0) (atI K 1) (atI K 2)) rfl rfl (a2 (atI K 0) (atI K 1) (atI K 2))
def P3_0 (w0 w1 w2 w3:Int):HSt:=stL [(2,[true,true]),(0,[true,false,false,false,false,false,false,false])] 58 [(0,1,9,[6,0,0,0,65,0,0,0,0]),(6,4,10,[0,0,0,0,0,0,0,0,0,0]),(5,2,3,[0,0,0])] 1884 [16,32,0]
def U3_0 (w0 w1 w2 w3:Int):HSt:=stL [(2,[true,true]),(0,[true,false,false,false,false,false,false,false])] 58 [(0,1,9,[6,0,0,0,65,0,0,0,0]),(6,4,10,[0,0,0,0,0,0,0,0,0,0]),(5,2,3,[0,0,0])] 1884 [16,32,0]
theorem m3 (w0 w1 w2 w3:Int):law16_made.m 100 [3] 0=some (P3_0 w0 w1 w2 w3,U3_0 w0 w1 w2 w3,[0],[16]):=by kernel_rfl
def P3_1 (w0 w1 w2 w3:Int):HSt:=stL [(2,[true,true]),(0,[true,false,false,false,false,false,false,false])] 58 [(0,1,9,[6,0,2,0,65,0,0,0,0]),(6,4,10,[0,0,0,0,0,0,0,0,0,0]),(5,2,3,[w0,0,0])] 1884 [16,32,0]
theorem s3_0 (w0 w1 w2 w3:Int):send_TryI.m 100 (P3_0 w0 w1 w2 w3) (IntKind.i64.wrap ((IntKind.i64.wrap (2 * 0))+1)) w0=some (-1,1,P3_1 w0 w1 w2 w3):=by kernel_rfl
def P3_2 (w0 w1 w2 w3:Int):HSt:=stL [(2,[true,true]),(0,[true,false,false,false,false,false,false,false])] 58 [(0,1,9,[6,0,4,0,65,0,0,0,0]),(6,4,10,[0,0,0,0,0,0,0,0,0,0]),(5,2,3,[w0,w1,0])] 1884 [16,32,0]
theorem s3_1 (w0 w1 w2 w3:Int):send_TryI.m 100 (P3_1 w0 w1 w2 w3) (IntKind.i64.wrap ((IntKind.i64.wrap (2 * 0))+1)) w1=some (-1,1,P3_2 w0 w1 w2 w3):=by kernel_rfl
def P3_3 (w0 w1 w2 w3:Int):HSt:=stL [(2,[true,true]),(0,[true,false,false,false,false,false,false,false])] 58 [(0,1,9,[6,0,6,0,65,0,0,0,0]),(6,4,10,[0,0,0,0,0,0,0,0,0,0]),(5,2,3,[w0,w1,w2])] 1884 [16,32,0]
theorem s3_2 (w0 w1 w2 w3:Int):send_TryI.m 100 (P3_2 w0 w1 w2 w3) (IntKind.i64.wrap ((IntKind.i64.wrap (2 * 0))+1)) w2=some (-1,1,P3_3 w0 w1 w2 w3):=by kernel_rfl
def P3_4 (w0 w1 w2 w3:Int):HSt:=stL [(2,[true,true]),(0,[true,false,false,false,false,false,false,false]),(1,[true,false,false,false])] 57 [(0,1,9,[6,0,6,0,65,0,0,129,129]),(6,4,10,[0,2,0,0,0,0,0,0,0,129]),(5,2,3,[w0,w1,w2]),(28,3,7,[33,1,w3,0,18,(-2),0])] 1848 [64,16,32,0]
def U3_1 (w0 w1 w2 w3:Int):HSt:=stL [(2,[true,true]),(0,[true,false,false,false,false,false,false,false]),(1,[true,false,false,false])] 57 [(0,1,9,[6,0,0,0,65,0,0,129,129]),(6,4,10,[0,2,0,0,0,0,0,0,0,129]),(5,2,3,[0,0,0]),(28,3,7,[33,1,w3,0,18,(-2),0])] 1848 [64,16,32,0]
theorem t3_3 (w0 w1 w2 w3:Int):law16_waitI.m 100 (P3_3 w0 w1 w2 w3) (U3_0 w0 w1 w2 w3) [0] [16] 16 [0] [true] w3 9=some (true,P3_4 w0 w1 w2 (wV w3),U3_1 w0 w1 w2 (wV w3)):=by kernel_rfl
def P3_5 (w0 w1 w2 w3:Int):HSt:=stL [(2,[true,true]),(0,[true,false,false,false,false,false,false,false]),(1,[true,false,false,false])] 57 [(0,1,9,[6,0,6,2,65,0,0,0,0]),(6,4,10,[0,0,18,0,0,0,0,0,0,0]),(5,2,3,[w3,w1,w2]),(28,3,7,[33,1,w3,0,18,(-2),0])] 1848 [64,16,32,0]
theorem k3_4 (w0 w1 w2 w3:Int):take_TryI.m 100 (P3_4 w0 w1 w2 w3) (IntKind.i64.wrap ((IntKind.i64.wrap (2 * 0))+1))=some (w0,16,1,P3_5 w0 w1 w2 w3):=by kernel_rfl
theorem v3 (w0 w1 w2 w3:Int):pChan 0 (P3_5 w0 w1 w2 w3)=some (⟨3,0,3,1,32,-1,-1,-1,-1⟩,0):=by kernel_rfl
theorem g3 (w0 w1 w2 w3:Int):view_Gor.m 100 (P3_5 w0 w1 w2 w3) 16=some (⟨0,0,9,0,0,0,0,0,0,-1⟩,0,P3_5 w0 w1 w2 w3):=by kernel_rfl
theorem a3 (w0 w1 w2 w3:Int):list_All.m 100 (P3_5 w0 w1 w2 w3) 0 true=some ([],P3_5 w0 w1 w2 w3):=by kernel_rfl
theorem c3 {K:List Int} (hK:AllW K) (h5:5≤K.length):TakeMoves.l2 K 100 3 [0] [16] 100 (P3_0 (atI K 0) (atI K 1) (atI K 2) (atI K 3)) (U3_0 (atI K 0) (atI K 1) (atI K 2) (atI K 3)) 0=some true:=by
  have hw0:wdB (atI K 0)=true:=hK.at _
  have hw1:wdB (atI K 1)=true:=hK.at _
  have hw2:wdB (atI K 2)=true:=hK.at _
  have hw3:wdB (atI K 3)=true:=hK.at _
  obtain ⟨i0,v0⟩:=(law16_made.m_ok (k:=100)).2 _ (m3 (atI K 0) (atI K 1) (atI K 2) (atI K 3))
  have a0:=send_Try.m_ok (k:=100) (i1:=(IntKind.i64.wrap ((IntKind.i64.wrap (2 * 0))+1))) i0 hw0
  have e0:=a0.1.symm.trans (s3_0 (atI K 0) (atI K 1) (atI K 2) (atI K 3))
  have i1:=a0.2 _ e0
  have a1:=send_Try.m_ok (k:=100) (i1:=(IntKind.i64.wrap ((IntKind.i64.wrap (2 * 0))+1))) i1 hw1
  have e1:=a1.1.symm.trans (s3_1 (atI K 0) (atI K 1) (atI K 2) (atI K 3))
  have i2:=a1.2 _ e1
  have a2:=send_Try.m_ok (k:=100) (i1:=(IntKind.i64.wrap ((IntKind.i64.wrap (2 * 0))+1))) i2 hw2
  have e2:=a2.1.symm.trans (s3_2 (atI K 0) (atI K 1) (atI K 2) (atI K 3))
  have i3:=a2.2 _ e2
  have b0:=law16_wait.m_ok (k:=100) (Lc0:=[0]) (Lg0:=[16]) (i1:=16) (L2:=[0]) (L3:=[true]) (i4:=atI K 3) (i5:=9) i3 v0
  have f0:=b0.1.symm.trans (t3_3 (atI K 0) (atI K 1) (atI K 2) (atI K 3))
  rw [wV_eq hw3] at f0
  obtain ⟨i4,_⟩:=b0.2 _ f0
  have a4:=take_Try.m_ok (k:=100) (i1:=(IntKind.i64.wrap ((IntKind.i64.wrap (2 * 0))+1))) i4
  have e4:=a4.1.symm.trans (k3_4 (atI K 0) (atI K 1) (atI K 2) (atI K 3))
  rw [l2_step (j:=1) (by decide) (inR_of h5 0 (by decide) (by decide)) e0 (by decide)]
  rw [l2_step (j:=2) (by decide) (inR_of h5 1 (by decide) (by decide)) e1 (by decide)]
  rw [l2_step (j:=3) (by decide) (inR_of h5 2 (by decide) (by decide)) e2 (by decide)]
  exact l2_end (by decide) (inR_of h5 3 (by decide) (by decide)) (inR_of h5 0 (by decide) (by decide)) f0 e4 (v3 (atI K 0) (atI K 1) (atI K 2) (atI K 3)) rfl (g3 (atI K 0) (atI K 1) (atI K 2) (atI K 3)) rfl rfl (a3 (atI K 0) (atI K 1) (atI K 2) (atI K 3))
end tm
end Go.Proofs.YtgejcjcpchofiaaGreat
