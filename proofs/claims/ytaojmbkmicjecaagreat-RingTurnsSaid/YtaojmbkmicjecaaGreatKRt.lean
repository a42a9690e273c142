/- Rt -/
import Derived.Test.YtaojmbkmicjecaaGreatKGRingTurns
import Derived.Test.YtaojmbkmicjecaaGreatKTw12
import Derived.Test.YtaojmbkmicjecaaGreatKPrimV
import Derived.KernelRfl
namespace Go.Proofs.YtaojmbkmicjecaaGreat
open Go.RowKit
set_option linter.unusedVariables false
set_option maxRecDepth 100000
namespace rt
theorem p000 (x:Int):ring_PutI.m 100 (RS 0 0 0 []) 0 x=some (9,RS 0 0 0 []):=by kernel_rfl
theorem t000:ring_Take.m 100 (RS 0 0 0 []) 0=some (0,8,RS 0 0 0 []):=by kernel_rfl
theorem v000:pChan 0 (RS 0 0 0 [])=some (⟨0,0,0,0,-1,-1,-1,-1,-1⟩,0):=by kernel_rfl
theorem a000:ring_All.m 100 (RS 0 0 0 []) 0=some ([],RS 0 0 0 []):=by kernel_rfl
theorem p100 (x:Int):ring_PutI.m 100 (RS 1 0 0 []) 0 x=some (0,RS 1 0 1 ([] ++ [x])):=by kernel_rfl
theorem t100:ring_Take.m 100 (RS 1 0 0 []) 0=some (0,8,RS 1 0 0 []):=by kernel_rfl
theorem v100:pChan 0 (RS 1 0 0 [])=some (⟨1,0,0,0,32,-1,-1,-1,-1⟩,0):=by kernel_rfl
theorem a100:ring_All.m 100 (RS 1 0 0 []) 0=some ([],RS 1 0 0 []):=by kernel_rfl
theorem p101 (a x:Int):ring_PutI.m 100 (RS 1 0 1 [a]) 0 x=some (9,RS 1 0 1 [a]):=by kernel_rfl
theorem t101 (a:Int):ring_Take.m 100 (RS 1 0 1 [a]) 0=some (a,0,RS 1 0 0 []):=by kernel_rfl
theorem v101 (a:Int):pChan 0 (RS 1 0 1 [a])=some (⟨1,0,1,0,32,-1,-1,-1,-1⟩,0):=by kernel_rfl
theorem a101 (a:Int):ring_All.m 100 (RS 1 0 1 [a]) 0=some ([a],RS 1 0 1 [a]):=by kernel_rfl
theorem p200 (x:Int):ring_PutI.m 100 (RS 2 0 0 []) 0 x=some (0,RS 2 0 1 ([] ++ [x])):=by kernel_rfl
theorem t200:ring_Take.m 100 (RS 2 0 0 []) 0=some (0,8,RS 2 0 0 []):=by kernel_rfl
theorem v200:pChan 0 (RS 2 0 0 [])=some (⟨2,0,0,0,32,-1,-1,-1,-1⟩,0):=by kernel_rfl
theorem a200:ring_All.m 100 (RS 2 0 0 []) 0=some ([],RS 2 0 0 []):=by kernel_rfl
theorem p201 (a x:Int):ring_PutI.m 100 (RS 2 0 1 [a]) 0 x=some (0,RS 2 0 2 ([a] ++ [x])):=by kernel_rfl
theorem t201 (a:Int):ring_Take.m 100 (RS 2 0 1 [a]) 0=some (a,0,RS 2 1 0 []):=by kernel_rfl
theorem v201 (a:Int):pChan 0 (RS 2 0 1 [a])=some (⟨2,0,1,0,32,-1,-1,-1,-1⟩,0):=by kernel_rfl
theorem a201 (a:Int):ring_All.m 100 (RS 2 0 1 [a]) 0=some ([a],RS 2 0 1 [a]):=by kernel_rfl
theorem p202 (a b x:Int):ring_PutI.m 100 (RS 2 0 2 [a,b]) 0 x=some (9,RS 2 0 2 [a,b]):=by kernel_rfl
theorem t202 (a b:Int):ring_Take.m 100 (RS 2 0 2 [a,b]) 0=some (a,0,RS 2 1 1 [b]):=by kernel_rfl
theorem v202 (a b:Int):pChan 0 (RS 2 0 2 [a,b])=some (⟨2,0,2,0,32,-1,-1,-1,-1⟩,0):=by kernel_rfl
theorem a202 (a b:Int):ring_All.m 100 (RS 2 0 2 [a,b]) 0=some ([a,b],RS 2 0 2 [a,b]):=by kernel_rfl
theorem p210 (x:Int):ring_PutI.m 100 (RS 2 1 0 []) 0 x=some (0,RS 2 1 1 ([] ++ [x])):=by kernel_rfl
theorem t210:ring_Take.m 100 (RS 2 1 0 []) 0=some (0,8,RS 2 1 0 []):=by kernel_rfl
theorem v210:pChan 0 (RS 2 1 0 [])=some (⟨2,0,0,1,32,-1,-1,-1,-1⟩,0):=by kernel_rfl
theorem a210:ring_All.m 100 (RS 2 1 0 []) 0=some ([],RS 2 1 0 []):=by kernel_rfl
theorem p211 (a x:Int):ring_PutI.m 100 (RS 2 1 1 [a]) 0 x=some (0,RS 2 1 2 ([a] ++ [x])):=by kernel_rfl
theorem t211 (a:Int):ring_Take.m 100 (RS 2 1 1 [a]) 0=some (a,0,RS 2 0 0 []):=by kernel_rfl
theorem v211 (a:Int):pChan 0 (RS 2 1 1 [a])=some (⟨2,0,1,1,32,-1,-1,-1,-1⟩,0):=by kernel_rfl
theorem a211 (a:Int):ring_All.m 100 (RS 2 1 1 [a]) 0=some ([a],RS 2 1 1 [a]):=by kernel_rfl
theorem p212 (a b x:Int):ring_PutI.m 100 (RS 2 1 2 [a,b]) 0 x=some (9,RS 2 1 2 [a,b]):=by kernel_rfl
theorem t212 (a b:Int):ring_Take.m 100 (RS 2 1 2 [a,b]) 0=some (a,0,RS 2 0 1 [b]):=by kernel_rfl
theorem v212 (a b:Int):pChan 0 (RS 2 1 2 [a,b])=some (⟨2,0,2,1,32,-1,-1,-1,-1⟩,0):=by kernel_rfl
theorem a212 (a b:Int):ring_All.m 100 (RS 2 1 2 [a,b]) 0=some ([a,b],RS 2 1 2 [a,b]):=by kernel_rfl
theorem p300 (x:Int):ring_PutI.m 100 (RS 3 0 0 []) 0 x=some (0,RS 3 0 1 ([] ++ [x])):=by kernel_rfl
theorem t300:ring_Take.m 100 (RS 3 0 0 []) 0=some (0,8,RS 3 0 0 []):=by kernel_rfl
theorem v300:pChan 0 (RS 3 0 0 [])=some (⟨3,0,0,0,32,-1,-1,-1,-1⟩,0):=by kernel_rfl
theorem a300:ring_All.m 100 (RS 3 0 0 []) 0=some ([],RS 3 0 0 []):=by kernel_rfl
theorem p301 (a x:Int):ring_PutI.m 100 (RS 3 0 1 [a]) 0 x=some (0,RS 3 0 2 ([a] ++ [x])):=by kernel_rfl
theorem t301 (a:Int):ring_Take.m 100 (RS 3 0 1 [a]) 0=some (a,0,RS 3 1 0 []):=by kernel_rfl
theorem v301 (a:Int):pChan 0 (RS 3 0 1 [a])=some (⟨3,0,1,0,32,-1,-1,-1,-1⟩,0):=by kernel_rfl
theorem a301 (a:Int):ring_All.m 100 (RS 3 0 1 [a]) 0=some ([a],RS 3 0 1 [a]):=by kernel_rfl
theorem p302 (a b x:Int):ring_PutI.m 100 (RS 3 0 2 [a,b]) 0 x=some (0,RS 3 0 3 ([a,b] ++ [x])):=by kernel_rfl
theorem t302 (a b:Int):ring_Take.m 100 (RS 3 0 2 [a,b]) 0=some (a,0,RS 3 1 1 [b]):=by kernel_rfl
theorem v302 (a b:Int):pChan 0 (RS 3 0 2 [a,b])=some (⟨3,0,2,0,32,-1,-1,-1,-1⟩,0):=by kernel_rfl
theorem a302 (a b:Int):ring_All.m 100 (RS 3 0 2 [a,b]) 0=some ([a,b],RS 3 0 2 [a,b]):=by kernel_rfl
theorem p303 (a b d x:Int):ring_PutI.m 100 (RS 3 0 3 [a,b,d]) 0 x=some (9,RS 3 0 3 [a,b,d]):=by kernel_rfl
theorem t303 (a b d:Int):ring_Take.m 100 (RS 3 0 3 [a,b,d]) 0=some (a,0,RS 3 1 2 [b,d]):=by kernel_rfl
theorem v303 (a b d:Int):pChan 0 (RS 3 0 3 [a,b,d])=some (⟨3,0,3,0,32,-1,-1,-1,-1⟩,0):=by kernel_rfl
theorem a303 (a b d:Int):ring_All.m 100 (RS 3 0 3 [a,b,d]) 0=some ([a,b,d],RS 3 0 3 [a,b,d]):=by kernel_rfl
theorem p310 (x:Int):ring_PutI.m 100 (RS 3 1 0 []) 0 x=some (0,RS 3 1 1 ([] ++ [x])):=by kernel_rfl
theorem t310:ring_Take.m 100 (RS 3 1 0 []) 0=some (0,8,RS 3 1 0 []):=by kernel_rfl
theorem v310:pChan 0 (RS 3 1 0 [])=some (⟨3,0,0,1,32,-1,-1,-1,-1⟩,0):=by kernel_rfl
theorem a310:ring_All.m 100 (RS 3 1 0 []) 0=some ([],RS 3 1 0 []):=by kernel_rfl
theorem p311 (a x:Int):ring_PutI.m 100 (RS 3 1 1 [a]) 0 x=some (0,RS 3 1 2 ([a] ++ [x])):=by kernel_rfl
theorem t311 (a:Int):ring_Take.m 100 (RS 3 1 1 [a]) 0=some (a,0,RS 3 2 0 []):=by kernel_rfl
theorem v311 (a:Int):pChan 0 (RS 3 1 1 [a])=some (⟨3,0,1,1,32,-1,-1,-1,-1⟩,0):=by kernel_rfl
theorem a311 (a:Int):ring_All.m 100 (RS 3 1 1 [a]) 0=some ([a],RS 3 1 1 [a]):=by kernel_rfl
theorem p312 (a b x:Int):ring_PutI.m 100 (RS 3 1 2 [a,b]) 0 x=some (0,RS 3 1 3 ([a,b] ++ [x])):=by kernel_rfl
theorem t312 (a b:Int):ring_Take.m 100 (RS 3 1 2 [a,b]) 0=some (a,0,RS 3 2 1 [b]):=by kernel_rfl
theorem v312 (a b:Int):pChan 0 (RS 3 1 2 [a,b])=some (⟨3,0,2,1,32,-1,-1,-1,-1⟩,0):=by kernel_rfl
theorem a312 (a b:Int):ring_All.m 100 (RS 3 1 2 [a,b]) 0=some ([a,b],RS 3 1 2 [a,b]):=by kernel_rfl
theorem p313 (a b d x:Int):ring_PutI.m 100 (RS 3 1 3 [a,b,d]) 0 x=some (9,RS 3 1 3 [a,b,d]):=by kernel_rfl
theorem t313 (a b d:Int):ring_Take.m 100 (RS 3 1 3 [a,b,d]) 0=some (a,0,RS 3 2 2 [b,d]):=by kernel_rfl
theorem v313 (a b d:Int):pChan 0 (RS 3 1 3 [a,b,d])=some (⟨3,0,3,1,32,-1,-1,-1,-1⟩,0):=by kernel_rfl
theorem a313 (a b d:Int):ring_All.m 100 (RS 3 1 3 [a,b,d]) 0=some ([a,b,d],RS 3 1 3 [a,b,d]):=by kernel_rfl
theorem p320 (x:Int):ring_PutI.m 100 (RS 3 2 0 []) 0 x=some (0,RS 3 2 1 ([] ++ [x])):=by kernel_rfl
theorem t320:ring_Take.m 100 (RS 3 2 0 []) 0=some (0,8,RS 3 2 0 []):=by kernel_rfl
theorem v320:pChan 0 (RS 3 2 0 [])=some (⟨3,0,0,2,32,-1,-1,-1,-1⟩,0):=by kernel_rfl
theorem a320:ring_All.m 100 (RS 3 2 0 []) 0=some ([],RS 3 2 0 []):=by kernel_rfl
theorem p321 (a x:Int):ring_PutI.m 100 (RS 3 2 1 [a]) 0 x=some (0,RS 3 2 2 ([a] ++ [x])):=by kernel_rfl
theorem t321 (a:Int):ring_Take.m 100 (RS 3 2 1 [a]) 0=some (a,0,RS 3 0 0 []):=by kernel_rfl
theorem v321 (a:Int):pChan 0 (RS 3 2 1 [a])=some (⟨3,0,1,2,32,-1,-1,-1,-1⟩,0):=by kernel_rfl
theorem a321 (a:Int):ring_All.m 100 (RS 3 2 1 [a]) 0=some ([a],RS 3 2 1 [a]):=by kernel_rfl
theorem p322 (a b x:Int):ring_PutI.m 100 (RS 3 2 2 [a,b]) 0 x=some (0,RS 3 2 3 ([a,b] ++ [x])):=by kernel_rfl
theorem t322 (a b:Int):ring_Take.m 100 (RS 3 2 2 [a,b]) 0=some (a,0,RS 3 0 1 [b]):=by kernel_rfl
theorem v322 (a b:Int):pChan 0 (RS 3 2 2 [a,b])=some (⟨3,0,2,2,32,-1,-1,-1,-1⟩,0):=by kernel_rfl
theorem a322 (a b:Int):ring_All.m 100 (RS 3 2 2 [a,b]) 0=some ([a,b],RS 3 2 2 [a,b]):=by kernel_rfl
theorem p323 (a b d x:Int):ring_PutI.m 100 (RS 3 2 3 [a,b,d]) 0 x=some (9,RS 3 2 3 [a,b,d]):=by kernel_rfl
theorem t323 (a b d:Int):ring_Take.m 100 (RS 3 2 3 [a,b,d]) 0=some (a,0,RS 3 0 2 [b,d]):=by kernel_rfl
theorem v323 (a b d:Int):pChan 0 (RS 3 2 3 [a,b,d])=some (⟨3,0,3,2,32,-1,-1,-1,-1⟩,0):=by kernel_rfl
theorem a323 (a b d:Int):ring_All.m 100 (RS 3 2 3 [a,b,d]) 0=some ([a,b,d],RS 3 2 3 [a,b,d]):=by kernel_rfl
section
variable {c st n:Nat} {L:List Int} {x:Int}
theorem put_all (hc:c≤3) (hs:st<max c 1) (hn:L.length=n) (hl:n≤c) (hI:InvH (RS c st n L)) (hx:wdB x=true):ring_Put.m 100 (RS c st n L) 0 x=if n<c then some (0,RS c st (n+1) (L ++ [x])) else some (9,RS c st n L):=by
  have h4:c=0 ∨ c=1 ∨ c=2 ∨ c=3:=by omega
  rcases h4 with rfl | rfl | rfl | rfl
  · have h5:st=0:=by omega
    rcases h5 with rfl
    · match L,hn with
      | [],hn=>obtain rfl:n=0:=hn.symm; exact (ring_Put.m_ok hI hx).1.symm.trans (p000 _)
      | _::_,hn=>simp at hn; omega
  · have h5:st=0:=by omega
    rcases h5 with rfl
    · match L,hn with
      | [],hn=>obtain rfl:n=0:=hn.symm; exact (ring_Put.m_ok hI hx).1.symm.trans (p100 _)
      | [a],hn=>obtain rfl:n=1:=hn.symm; exact (ring_Put.m_ok hI hx).1.symm.trans (p101 _ _)
      | _::_::_,hn=>simp at hn; omega
  · have h5:st=0 ∨ st=1:=by omega
    rcases h5 with rfl | rfl
    · match L,hn with
      | [],hn=>obtain rfl:n=0:=hn.symm; exact (ring_Put.m_ok hI hx).1.symm.trans (p200 _)
      | [a],hn=>obtain rfl:n=1:=hn.symm; exact (ring_Put.m_ok hI hx).1.symm.trans (p201 _ _)
      | [a,b],hn=>obtain rfl:n=2:=hn.symm; exact (ring_Put.m_ok hI hx).1.symm.trans (p202 _ _ _)
      | _::_::_::_,hn=>simp at hn; omega
    · match L,hn with
      | [],hn=>obtain rfl:n=0:=hn.symm; exact (ring_Put.m_ok hI hx).1.symm.trans (p210 _)
      | [a],hn=>obtain rfl:n=1:=hn.symm; exact (ring_Put.m_ok hI hx).1.symm.trans (p211 _ _)
      | [a,b],hn=>obtain rfl:n=2:=hn.symm; exact (ring_Put.m_ok hI hx).1.symm.trans (p212 _ _ _)
      | _::_::_::_,hn=>simp at hn; omega
  · have h5:st=0 ∨ st=1 ∨ st=2:=by omega
    rcases h5 with rfl | rfl | rfl
    · match L,hn with
      | [],hn=>obtain rfl:n=0:=hn.symm; exact (ring_Put.m_ok hI hx).1.symm.trans (p300 _)
      | [a],hn=>obtain rfl:n=1:=hn.symm; exact (ring_Put.m_ok hI hx).1.symm.trans (p301 _ _)
      | [a,b],hn=>obtain rfl:n=2:=hn.symm; exact (ring_Put.m_ok hI hx).1.symm.trans (p302 _ _ _)
      | [a,b,d],hn=>obtain rfl:n=3:=hn.symm; exact (ring_Put.m_ok hI hx).1.symm.trans (p303 _ _ _ _)
      | _::_::_::_::_,hn=>simp at hn; omega
    · match L,hn with
      | [],hn=>obtain rfl:n=0:=hn.symm; exact (ring_Put.m_ok hI hx).1.symm.trans (p310 _)
      | [a],hn=>obtain rfl:n=1:=hn.symm; exact (ring_Put.m_ok hI hx).1.symm.trans (p311 _ _)
      | [a,b],hn=>obtain rfl:n=2:=hn.symm; exact (ring_Put.m_ok hI hx).1.symm.trans (p312 _ _ _)
      | [a,b,d],hn=>obtain rfl:n=3:=hn.symm; exact (ring_Put.m_ok hI hx).1.symm.trans (p313 _ _ _ _)
      | _::_::_::_::_,hn=>simp at hn; omega
    · match L,hn with
      | [],hn=>obtain rfl:n=0:=hn.symm; exact (ring_Put.m_ok hI hx).1.symm.trans (p320 _)
      | [a],hn=>obtain rfl:n=1:=hn.symm; exact (ring_Put.m_ok hI hx).1.symm.trans (p321 _ _)
      | [a,b],hn=>obtain rfl:n=2:=hn.symm; exact (ring_Put.m_ok hI hx).1.symm.trans (p322 _ _ _)
      | [a,b,d],hn=>obtain rfl:n=3:=hn.symm; exact (ring_Put.m_ok hI hx).1.symm.trans (p323 _ _ _ _)
      | _::_::_::_::_,hn=>simp at hn; omega
theorem take_all (hc:c≤3) (hs:st<max c 1) (hn:L.length=n) (hl:n≤c):ring_Take.m 100 (RS c st n L) 0=match L with | []=>some (0,8,RS c st n []) | y::t=>some (y,0,RS c ((st+1) % c) (n - 1) t):=by
  have h4:c=0 ∨ c=1 ∨ c=2 ∨ c=3:=by omega
  rcases h4 with rfl | rfl | rfl | rfl
  · have h5:st=0:=by omega
    rcases h5 with rfl
    · match L,hn with
      | [],hn=>obtain rfl:n=0:=hn.symm; exact t000
      | _::_,hn=>simp at hn; omega
  · have h5:st=0:=by omega
    rcases h5 with rfl
    · match L,hn with
      | [],hn=>obtain rfl:n=0:=hn.symm; exact t100
      | [a],hn=>obtain rfl:n=1:=hn.symm; exact t101 _
      | _::_::_,hn=>simp at hn; omega
  · have h5:st=0 ∨ st=1:=by omega
    rcases h5 with rfl | rfl
    · match L,hn with
      | [],hn=>obtain rfl:n=0:=hn.symm; exact t200
      | [a],hn=>obtain rfl:n=1:=hn.symm; exact t201 _
      | [a,b],hn=>obtain rfl:n=2:=hn.symm; exact t202 _ _
      | _::_::_::_,hn=>simp at hn; omega
    · match L,hn with
      | [],hn=>obtain rfl:n=0:=hn.symm; exact t210
      | [a],hn=>obtain rfl:n=1:=hn.symm; exact t211 _
      | [a,b],hn=>obtain rfl:n=2:=hn.symm; exact t212 _ _
      | _::_::_::_,hn=>simp at hn; omega
  · have h5:st=0 ∨ st=1 ∨ st=2:=by omega
    rcases h5 with rfl | rfl | rfl
    · match L,hn with
      | [],hn=>obtain rfl:n=0:=hn.symm; exact t300
      | [a],hn=>obtain rfl:n=1:=hn.symm; exact t301 _
      | [a,b],hn=>obtain rfl:n=2:=hn.symm; exact t302 _ _
      | [a,b,d],hn=>obtain rfl:n=3:=hn.symm; exact t303 _ _ _
      | _::_::_::_::_,hn=>simp at hn; omega
    · match L,hn with
      | [],hn=>obtain rfl:n=0:=hn.symm; exact t310
      | [a],hn=>obtain rfl:n=1:=hn.symm; exact t311 _
      | [a,b],hn=>obtain rfl:n=2:=hn.symm; exact t312 _ _
      | [a,b,d],hn=>obtain rfl:n=3:=hn.symm; exact t313 _ _ _
      | _::_::_::_::_,hn=>simp at hn; omega
    · match L,hn with
      | [],hn=>obtain rfl:n=0:=hn.symm; exact t320
      | [a],hn=>obtain rfl:n=1:=hn.symm; exact t321 _
      | [a,b],hn=>obtain rfl:n=2:=hn.symm; exact t322 _ _
      | [a,b,d],hn=>obtain rfl:n=3:=hn.symm; exact t323 _ _ _
      | _::_::_::_::_,hn=>simp at hn; omega
theorem chan_all (hc:c≤3) (hs:st<max c 1) (hn:L.length=n) (hl:n≤c):pChan 0 (RS c st n L)=some (⟨c,0,n,st,if c=0 then -1 else 32,-1,-1,-1,-1⟩,0):=by
  have h4:c=0 ∨ c=1 ∨ c=2 ∨ c=3:=by omega
  rcases h4 with rfl | rfl | rfl | rfl
  · have h5:st=0:=by omega
    rcases h5 with rfl
    · match L,hn with
      | [],hn=>obtain rfl:n=0:=hn.symm; exact v000
      | _::_,hn=>simp at hn; omega
  · have h5:st=0:=by omega
    rcases h5 with rfl
    · match L,hn with
      | [],hn=>obtain rfl:n=0:=hn.symm; exact v100
      | [a],hn=>obtain rfl:n=1:=hn.symm; exact v101 _
      | _::_::_,hn=>simp at hn; omega
  · have h5:st=0 ∨ st=1:=by omega
    rcases h5 with rfl | rfl
    · match L,hn with
      | [],hn=>obtain rfl:n=0:=hn.symm; exact v200
      | [a],hn=>obtain rfl:n=1:=hn.symm; exact v201 _
      | [a,b],hn=>obtain rfl:n=2:=hn.symm; exact v202 _ _
      | _::_::_::_,hn=>simp at hn; omega
    · match L,hn with
      | [],hn=>obtain rfl:n=0:=hn.symm; exact v210
      | [a],hn=>obtain rfl:n=1:=hn.symm; exact v211 _
      | [a,b],hn=>obtain rfl:n=2:=hn.symm; exact v212 _ _
      | _::_::_::_,hn=>simp at hn; omega
  · have h5:st=0 ∨ st=1 ∨ st=2:=by omega
    rcases h5 with rfl | rfl | rfl
    · match L,hn with
      | [],hn=>obtain rfl:n=0:=hn.symm; exact v300
      | [a],hn=>obtain rfl:n=1:=hn.symm; exact v301 _
      | [a,b],hn=>obtain rfl:n=2:=hn.symm; exact v302 _ _
      | [a,b,d],hn=>obtain rfl:n=3:=hn.symm; exact v303 _ _ _
      | _::_::_::_::_,hn=>simp at hn; omega
    · match L,hn with
      | [],hn=>obtain rfl:n=0:=hn.symm; exact v310
      | [a],hn=>obtain rfl:n=1:=hn.symm; exact v311 _
      | [a,b],hn=>obtain rfl:n=2:=hn.symm; exact v312 _ _
      | [a,b,d],hn=>obtain rfl:n=3:=hn.symm; exact v313 _ _ _
      | _::_::_::_::_,hn=>simp at hn; omega
    · match L,hn with
      | [],hn=>obtain rfl:n=0:=hn.symm; exact v320
      | [a],hn=>obtain rfl:n=1:=hn.symm; exact v321 _
      | [a,b],hn=>obtain rfl:n=2:=hn.symm; exact v322 _ _
      | [a,b,d],hn=>obtain rfl:n=3:=hn.symm; exact v323 _ _ _
      | _::_::_::_::_,hn=>simp at hn; omega
theorem all_all (hc:c≤3) (hs:st<max c 1) (hn:L.length=n) (hl:n≤c):ring_All.m 100 (RS c st n L) 0=some (L,RS c st n L):=by
  have h4:c=0 ∨ c=1 ∨ c=2 ∨ c=3:=by omega
  rcases h4 with rfl | rfl | rfl | rfl
  · have h5:st=0:=by omega
    rcases h5 with rfl
    · match L,hn with
      | [],hn=>obtain rfl:n=0:=hn.symm; exact a000
      | _::_,hn=>simp at hn; omega
  · have h5:st=0:=by omega
    rcases h5 with rfl
    · match L,hn with
      | [],hn=>obtain rfl:n=0:=hn.symm; exact a100
      | [a],hn=>obtain rfl:n=1:=hn.symm; exact a101 _
      | _::_::_,hn=>simp at hn; omega
  · have h5:st=0 ∨ st=1:=by omega
    rcases h5 with rfl | rfl
    · match L,hn with
      | [],hn=>obtain rfl:n=0:=hn.symm; exact a200
      | [a],hn=>obtain rfl:n=1:=hn.symm; exact a201 _
      | [a,b],hn=>obtain rfl:n=2:=hn.symm; exact a202 _ _
      | _::_::_::_,hn=>simp at hn; omega
    · match L,hn with
      | [],hn=>obtain rfl:n=0:=hn.symm; exact a210
      | [a],hn=>obtain rfl:n=1:=hn.symm; exact a211 _
      | [a,b],hn=>obtain rfl:n=2:=hn.symm; exact a212 _ _
      | _::_::_::_,hn=>simp at hn; omega
  · have h5:st=0 ∨ st=1 ∨ st=2:=by omega
    rcases h5 with rfl | rfl | rfl
    · match L,hn with
      | [],hn=>obtain rfl:n=0:=hn.symm; exact a300
      | [a],hn=>obtain rfl:n=1:=hn.symm; exact a301 _
      | [a,b],hn=>obtain rfl:n=2:=hn.symm; exact a302 _ _
      | [a,b,d],hn=>obtain rfl:n=3:=hn.symm; exact a303 _ _ _
      | _::_::_::_::_,hn=>simp at hn; omega
    · match L,hn with
      | [],hn=>obtain rfl:n=0:=hn.symm; exact a310
      | [a],hn=>obtain rfl:n=1:=hn.symm; exact a311 _
      | [a,b],hn=>obtain rfl:n=2:=hn.symm; exact a312 _ _
      | [a,b,d],hn=>obtain rfl:n=3:=hn.symm; exact a313 _ _ _
      | _::_::_::_::_,hn=>simp at hn; omega
    · match L,hn with
      | [],hn=>obtain rfl:n=0:=hn.symm; exact a320
      | [a],hn=>obtain rfl:n=1:=hn.symm; exact a321 _
      | [a,b],hn=>obtain rfl:n=2:=hn.symm; exact a322 _ _
      | [a,b,d],hn=>obtain rfl:n=3:=hn.symm; exact a323 _ _ _
      | _::_::_::_::_,hn=>simp at hn; omega
end
theorem sameO {L:List Int} {k:Nat} (h1000:L.length<1000):∀ (d i f:Nat),i+d=L.length→d<f→help_SameO.l1 L L k f (i:Int)=some true
  | 0,i,f,hi,hf=>by
    obtain ⟨f,rfl⟩:∃ g,f=g+1:=⟨f - 1,by omega⟩
    show help_SameO.l1b L L k (help_SameO.l1 L L k f) (i:Int)=some true
    unfold help_SameO.l1b
    rw [if_neg (by simp; omega)]
  | d+1,i,f,hi,hf=>by
    obtain ⟨f,rfl⟩:∃ g,f=g+1:=⟨f - 1,by omega⟩
    have ih:=sameO (k:=k) h1000 d (i+1) f (by omega) (by omega)
    show help_SameO.l1b L L k (help_SameO.l1 L L k f) (i:Int)=some true
    unfold help_SameO.l1b help_eq.m
    rw [if_pos (by simp; omega),if_pos (by simp [inR]; omega),if_pos (by simp [inR]; omega),bind1_some,if_neg (by simp)]
    have e:IntKind.i64.wrap ((i:Int)+1)=((i+1:Nat):Int):=by rw [IntKind.wrap_i64]; omega
    rw [e]; exact ih
theorem plainO {L:List Int} (h:L.length<99):help_PlainO.m 100 L L=some true:=by
  unfold help_PlainO.m help_SameO.m
  rw [if_neg (by simp)]
  have e:help_SameO.l1 L L 100 100 0=some true:=sameO (k:=100) (by omega) L.length 0 100 (by omega) (by omega)
  rw [e,bind1_some]
theorem ch12 (g:List Int) (k:Nat) (s u:HSt):law12_ch.m k s u [0] g 0=some (0,s,u):=by rfl
section
variable {K1 K2:List Int} {c:Nat} {u:HSt}
theorem loop (hc:c≤3) (hK:AllW K1):∀ (d i f:Nat) (st n m:Nat) (L:List Int),i+d=60→d<f→st<max c 1→L.length=n→n≤c→AllW L→m≤i→InvH (RS c st n L)→RingTurns.l20 K1 K2 100 (c:Int) [0] (gors c 2) f L (RS c st n L) u (i:Int) (m:Int)=some true
  | 0,i,f,st,n,m,L,hi,hf,hs,hn,hl,hL,hm,hI=>by
    obtain ⟨f,rfl⟩:∃ g,f=g+1:=⟨f - 1,by omega⟩
    show RingTurns.l20b K1 K2 100 (c:Int) [0] (gors c 2) (RingTurns.l20 K1 K2 100 (c:Int) [0] (gors c 2) f) L (RS c st n L) u (i:Int) (m:Int)=some true
    unfold RingTurns.l20b
    have e:decide ((i:Int)<60)=false:=by simp; omega
    rw [e,ite_self]
    rfl
  | d+1,i,f,st,n,m,L,hi,hf,hs,hn,hl,hL,hm,hI=>by
    obtain ⟨f,rfl⟩:∃ g,f=g+1:=⟨f - 1,by omega⟩
    have ih:=loop hc hK d (i+1) f
    show RingTurns.l20b K1 K2 100 (c:Int) [0] (gors c 2) (RingTurns.l20 K1 K2 100 (c:Int) [0] (gors c 2) f) L (RS c st n L) u (i:Int) (m:Int)=some true
    unfold RingTurns.l20b
    by_cases hlen:decide ((i:Int)<(K2.length:Int))=true
    · have e60:decide ((i:Int)<60)=true:=by simp; omega
      rw [if_pos hlen,e60]
      unfold RingTurns.j21
      rw [if_pos rfl,if_pos (by simp [inR]; simpa using hlen)]
      -- what follows a put or a take
      have rest:∀ (st' n' m':Nat) (L':List Int),st'<max c 1→L'.length=n'→n'≤c→AllW L'→m'≤i+1→InvH (RS c st' n' L')→RingTurns.j23 100 [0] (gors c 2) (i:Int) (RingTurns.l20 K1 K2 100 (c:Int) [0] (gors c 2) f) (RS c st' n' L') u L' (m':Int)=some true:=by
        intro st' n' m' L' h1 h2 h3 h4 h5 h6
        unfold RingTurns.j23
        rw [ch12,bind3_some,chan_all hc h1 h2 h3,bind2_some]
        unfold RingTurns.j24
        rw [if_neg (by decide),if_neg (by simp [h2]),ch12,bind3_some,all_all hc h1 h2 h3,bind2_some,plainO (by omega),bind1_some]
        unfold RingTurns.j25
        rw [if_neg (by decide)]
        have e:IntKind.i64.wrap ((i:Int)+1)=((i+1:Nat):Int):=by rw [IntKind.wrap_i64]; omega
        rw [e]
        exact ih st' n' m' L' (by omega) (by omega) h1 h2 h3 h4 h5 h6
      have put:decide ((m:Int)<(K1.length:Int))=true→RingTurns.j22 K1 100 (c:Int) [0] (gors c 2) L (RS c st n L) u (i:Int) (m:Int) (RingTurns.l20 K1 K2 100 (c:Int) [0] (gors c 2) f) true=some true:=by
        intro hm1
        have hx:wdB (atI K1 (m:Int))=true:=hK.at _
        have a:=ring_Put.m_ok (k:=100) (i1:=0) hI hx
        have e:=put_all hc hs hn hl hI hx
        have em:IntKind.i64.wrap ((m:Int)+1)=((m+1:Nat):Int):=by rw [IntKind.wrap_i64]; omega
        unfold RingTurns.j22
        rw [if_pos rfl,if_pos (by simp [inR]; simpa using hm1),ch12,bind3_some]
        by_cases h:n<c
        · rw [if_pos h] at e
          have hp:pushM L (atI K1 (m:Int))=some (L ++ [atI K1 (m:Int)]):=by unfold pushM; rw [if_pos (by omega)]
          rw [e,bind2_some,if_neg (by simp [hn,h]),if_neg (by decide)]
          unfold RingTurns.j26
          rw [if_neg (by decide),if_pos (by decide),hp,bind1_some]
          unfold RingTurns.j27
          rw [em]
          exact rest st (n+1) (m+1) _ hs (by simp [hn]) (by omega) (hL.push hx hp) (by omega) (a.2 _ e)
        · rw [if_neg h] at e
          rw [e,bind2_some,if_neg (by simp [hn,h]),if_pos (by decide)]
          unfold RingTurns.j26
          rw [if_neg (by decide),if_neg (by decide)]
          unfold RingTurns.j27
          rw [em]
          exact rest st n (m+1) L hs hn hl hL (by omega) (a.2 _ e)
      have take:RingTurns.j22 K1 100 (c:Int) [0] (gors c 2) L (RS c st n L) u (i:Int) (m:Int) (RingTurns.l20 K1 K2 100 (c:Int) [0] (gors c 2) f) false=some true:=by
        have e:=take_all hc hs hn hl
        have a:=ring_Take.m_ok (k:=100) (i1:=0) hI
        unfold RingTurns.j22
        rw [if_neg (by decide),ch12,bind3_some]
        cases L with
        | nil =>
          simp only at e
          rw [e,bind3_some,if_neg (by decide),if_neg (by decide),if_pos (by decide),if_neg (by decide)]
          unfold RingTurns.j28
          rw [if_neg (by decide),if_neg (by decide)]
          unfold RingTurns.j29
          exact rest st n m [] hs hn hl hL (by omega) (a.2 _ e)
        | cons y t =>
          simp only [List.length_cons] at hn
          simp only at e
          have hd:dropM (y::t) (1:Int)=some t:=by unfold dropM; rw [if_pos (by simp <;> omega)]; rfl
          have h0:inR (0:Int) (y::t).length=true:=by simp [inR] <;> omega
          have hat:atI (y::t) (0:Int)=y:=rfl
          rw [e,bind3_some,if_neg (by simp <;> omega),if_pos (by decide),if_pos h0,hat,if_neg (by simp),if_neg (by decide)]
          unfold RingTurns.j28
          rw [if_neg (by decide),if_pos (by decide),if_pos h0,hd,bind1_some]
          unfold RingTurns.j29
          exact rest ((st+1) % c) (n - 1) m t (by have:=Nat.mod_lt (st+1) (y:=c) (by omega); omega) (by omega) (by omega) (fun z hz=>hL z (List.mem_cons_of_mem _ hz)) (by omega) (a.2 _ e)
      by_cases hp:(Int.tmod (atI K2 (i:Int)) 2 == 0)=true
      · rw [if_pos hp]
        by_cases hm1:decide ((m:Int)<(K1.length:Int))=true
        · rw [hm1]; exact put hm1
        · have:decide ((m:Int)<(K1.length:Int))=false:=by simpa using hm1
          rw [this]; exact take
      · rw [if_neg hp]; exact take
    · rw [if_neg hlen]
      rfl
theorem fin {i0:Int} (hc:c≤3) (hK:AllW K1) (haw:law12_awake.m 100=some true) (h0:IntKind.i64.wrap (Int.tmod (IntKind.u64.wrap i0) 4)=c) (hm:law12_made.m 100 [(c:Int)] 1=some (RS c 0 0 [],RS c 0 0 [],[0],gors c 2)):RingTurns.m 100 i0 K1 K2=some true:=by
  obtain ⟨i,v⟩:=(law12_made.m_ok (k:=100)).2 _ hm
  unfold RingTurns.m
  rw [h0,bind1_some,hm,bind4_some,haw,bind1_some,if_neg (by decide)]
  unfold RingTurns.j1
  rw [if_neg (by decide)]
  exact loop hc hK 60 0 100 0 0 0 [] (by omega) (by omega) (by omega) rfl (by omega) .nil (by omega) i
end
theorem made0:law12_made.m 100 [0] 1=some (RS 0 0 0 [],RS 0 0 0 [],[0],gors 0 2):=by kernel_rfl
theorem made1:law12_made.m 100 [1] 1=some (RS 1 0 0 [],RS 1 0 0 [],[0],gors 1 2):=by kernel_rfl
theorem made2:law12_made.m 100 [2] 1=some (RS 2 0 0 [],RS 2 0 0 [],[0],gors 2 2):=by kernel_rfl
theorem made3:law12_made.m 100 [3] 1=some (RS 3 0 0 [],RS 3 0 0 [],[0],gors 3 2):=by kernel_rfl
end rt
end Go.Proofs.YtaojmbkmicjecaaGreat
