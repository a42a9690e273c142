/- Ra RingApartW RingApart -/
import Derived.Test.YtaojmbkmicjecaaGreatKGRingApart
import Derived.Test.YtaojmbkmicjecaaGreatKTw12
import Derived.Test.YtaojmbkmicjecaaGreatKPrimV
import Derived.Test.YtaojmbkmicjecaaGreatKUmod
import Derived.Test.YtaojmbkmicjecaaGreatKArg
import Derived.KernelRfl
import Derived.Test.YtaojmbkmicjecaaGreatRows
import Derived.WalkKit
import Derived.WalkSpells
import Derived.WalkLawsBesides
import Derived.ProofKit
import Derived.OpenShut
import Derived.ShutString
import Derived.ChangeOld
import Derived.Below
namespace Go.Proofs.YtaojmbkmicjecaaGreat
open Go.RowKit
set_option linter.unusedVariables false
set_option maxRecDepth 100000
namespace ra
def RA (s0 n0:Nat) (L0:List Int) (s1 n1:Nat) (L1:List Int):HSt:=⟨⟨[row 2 2 2,row 0 8 2,row 2 2 2] ++ List.replicate 57 noRow,mkP [(0,9,1,[6,0,2 * (n0:Nat),2 * (s0:Nat),65,0,0,0,0]),(16,9,1,[4,0,2 * (n1:Nat),2 * (s1:Nat),73,0,0,0,0]),(32,3,2,(List.range 3).map fun x=>L0.getD ((x+3 - s0) % 3) 0),(36,2,2,(List.range 2).map fun x=>L1.getD ((x+2 - s1) % 2) 0),(64,10,4,[0,0,0,0,0,0,0,0,0,0]),(80,10,4,[2,0,0,0,0,0,0,0,0,0])] 0⟩,colL [80,64,36,16,32,0],[],false,0,0,0⟩
theorem p000 (s n:Nat) (M:List Int) (x:Int):ring_PutI.m 100 (RA 0 0 [] s n M) 0 x=some (0,RA 0 1 ([] ++ [x]) s n M):=by kernel_rfl
theorem t000 (s n:Nat) (M:List Int):ring_Take.m 100 (RA 0 0 [] s n M) 0=some (0,8,RA 0 0 [] s n M):=by kernel_rfl
theorem a000 (s n:Nat) (M:List Int):ring_All.m 100 (RA 0 0 [] s n M) 0=some ([],RA 0 0 [] s n M):=by kernel_rfl
theorem p001 (s n:Nat) (M:List Int) (a:Int) (x:Int):ring_PutI.m 100 (RA 0 1 [a] s n M) 0 x=some (0,RA 0 2 ([a] ++ [x]) s n M):=by kernel_rfl
theorem t001 (s n:Nat) (M:List Int) (a:Int):ring_Take.m 100 (RA 0 1 [a] s n M) 0=some (a,0,RA 1 0 [] s n M):=by kernel_rfl
theorem a001 (s n:Nat) (M:List Int) (a:Int):ring_All.m 100 (RA 0 1 [a] s n M) 0=some ([a],RA 0 1 [a] s n M):=by kernel_rfl
theorem p002 (s n:Nat) (M:List Int) (a b:Int) (x:Int):ring_PutI.m 100 (RA 0 2 [a,b] s n M) 0 x=some (0,RA 0 3 ([a,b] ++ [x]) s n M):=by kernel_rfl
theorem t002 (s n:Nat) (M:List Int) (a b:Int):ring_Take.m 100 (RA 0 2 [a,b] s n M) 0=some (a,0,RA 1 1 [b] s n M):=by kernel_rfl
theorem a002 (s n:Nat) (M:List Int) (a b:Int):ring_All.m 100 (RA 0 2 [a,b] s n M) 0=some ([a,b],RA 0 2 [a,b] s n M):=by kernel_rfl
theorem p003 (s n:Nat) (M:List Int) (a b d:Int) (x:Int):ring_PutI.m 100 (RA 0 3 [a,b,d] s n M) 0 x=some (9,RA 0 3 [a,b,d] s n M):=by kernel_rfl
theorem t003 (s n:Nat) (M:List Int) (a b d:Int):ring_Take.m 100 (RA 0 3 [a,b,d] s n M) 0=some (a,0,RA 1 2 [b,d] s n M):=by kernel_rfl
theorem a003 (s n:Nat) (M:List Int) (a b d:Int):ring_All.m 100 (RA 0 3 [a,b,d] s n M) 0=some ([a,b,d],RA 0 3 [a,b,d] s n M):=by kernel_rfl
theorem p010 (s n:Nat) (M:List Int) (x:Int):ring_PutI.m 100 (RA 1 0 [] s n M) 0 x=some (0,RA 1 1 ([] ++ [x]) s n M):=by kernel_rfl
theorem t010 (s n:Nat) (M:List Int):ring_Take.m 100 (RA 1 0 [] s n M) 0=some (0,8,RA 1 0 [] s n M):=by kernel_rfl
theorem a010 (s n:Nat) (M:List Int):ring_All.m 100 (RA 1 0 [] s n M) 0=some ([],RA 1 0 [] s n M):=by kernel_rfl
theorem p011 (s n:Nat) (M:List Int) (a:Int) (x:Int):ring_PutI.m 100 (RA 1 1 [a] s n M) 0 x=some (0,RA 1 2 ([a] ++ [x]) s n M):=by kernel_rfl
theorem t011 (s n:Nat) (M:List Int) (a:Int):ring_Take.m 100 (RA 1 1 [a] s n M) 0=some (a,0,RA 2 0 [] s n M):=by kernel_rfl
theorem a011 (s n:Nat) (M:List Int) (a:Int):ring_All.m 100 (RA 1 1 [a] s n M) 0=some ([a],RA 1 1 [a] s n M):=by kernel_rfl
theorem p012 (s n:Nat) (M:List Int) (a b:Int) (x:Int):ring_PutI.m 100 (RA 1 2 [a,b] s n M) 0 x=some (0,RA 1 3 ([a,b] ++ [x]) s n M):=by kernel_rfl
theorem t012 (s n:Nat) (M:List Int) (a b:Int):ring_Take.m 100 (RA 1 2 [a,b] s n M) 0=some (a,0,RA 2 1 [b] s n M):=by kernel_rfl
theorem a012 (s n:Nat) (M:List Int) (a b:Int):ring_All.m 100 (RA 1 2 [a,b] s n M) 0=some ([a,b],RA 1 2 [a,b] s n M):=by kernel_rfl
theorem p013 (s n:Nat) (M:List Int) (a b d:Int) (x:Int):ring_PutI.m 100 (RA 1 3 [a,b,d] s n M) 0 x=some (9,RA 1 3 [a,b,d] s n M):=by kernel_rfl
theorem t013 (s n:Nat) (M:List Int) (a b d:Int):ring_Take.m 100 (RA 1 3 [a,b,d] s n M) 0=some (a,0,RA 2 2 [b,d] s n M):=by kernel_rfl
theorem a013 (s n:Nat) (M:List Int) (a b d:Int):ring_All.m 100 (RA 1 3 [a,b,d] s n M) 0=some ([a,b,d],RA 1 3 [a,b,d] s n M):=by kernel_rfl
theorem p020 (s n:Nat) (M:List Int) (x:Int):ring_PutI.m 100 (RA 2 0 [] s n M) 0 x=some (0,RA 2 1 ([] ++ [x]) s n M):=by kernel_rfl
theorem t020 (s n:Nat) (M:List Int):ring_Take.m 100 (RA 2 0 [] s n M) 0=some (0,8,RA 2 0 [] s n M):=by kernel_rfl
theorem a020 (s n:Nat) (M:List Int):ring_All.m 100 (RA 2 0 [] s n M) 0=some ([],RA 2 0 [] s n M):=by kernel_rfl
theorem p021 (s n:Nat) (M:List Int) (a:Int) (x:Int):ring_PutI.m 100 (RA 2 1 [a] s n M) 0 x=some (0,RA 2 2 ([a] ++ [x]) s n M):=by kernel_rfl
theorem t021 (s n:Nat) (M:List Int) (a:Int):ring_Take.m 100 (RA 2 1 [a] s n M) 0=some (a,0,RA 0 0 [] s n M):=by kernel_rfl
theorem a021 (s n:Nat) (M:List Int) (a:Int):ring_All.m 100 (RA 2 1 [a] s n M) 0=some ([a],RA 2 1 [a] s n M):=by kernel_rfl
theorem p022 (s n:Nat) (M:List Int) (a b:Int) (x:Int):ring_PutI.m 100 (RA 2 2 [a,b] s n M) 0 x=some (0,RA 2 3 ([a,b] ++ [x]) s n M):=by kernel_rfl
theorem t022 (s n:Nat) (M:List Int) (a b:Int):ring_Take.m 100 (RA 2 2 [a,b] s n M) 0=some (a,0,RA 0 1 [b] s n M):=by kernel_rfl
theorem a022 (s n:Nat) (M:List Int) (a b:Int):ring_All.m 100 (RA 2 2 [a,b] s n M) 0=some ([a,b],RA 2 2 [a,b] s n M):=by kernel_rfl
theorem p023 (s n:Nat) (M:List Int) (a b d:Int) (x:Int):ring_PutI.m 100 (RA 2 3 [a,b,d] s n M) 0 x=some (9,RA 2 3 [a,b,d] s n M):=by kernel_rfl
theorem t023 (s n:Nat) (M:List Int) (a b d:Int):ring_Take.m 100 (RA 2 3 [a,b,d] s n M) 0=some (a,0,RA 0 2 [b,d] s n M):=by kernel_rfl
theorem a023 (s n:Nat) (M:List Int) (a b d:Int):ring_All.m 100 (RA 2 3 [a,b,d] s n M) 0=some ([a,b,d],RA 2 3 [a,b,d] s n M):=by kernel_rfl
theorem p100 (s n:Nat) (M:List Int) (x:Int):ring_PutI.m 100 (RA s n M 0 0 []) 16 x=some (0,RA s n M 0 1 ([] ++ [x])):=by kernel_rfl
theorem t100 (s n:Nat) (M:List Int):ring_Take.m 100 (RA s n M 0 0 []) 16=some (0,8,RA s n M 0 0 []):=by kernel_rfl
theorem a100 (s n:Nat) (M:List Int):ring_All.m 100 (RA s n M 0 0 []) 16=some ([],RA s n M 0 0 []):=by kernel_rfl
theorem p101 (s n:Nat) (M:List Int) (a:Int) (x:Int):ring_PutI.m 100 (RA s n M 0 1 [a]) 16 x=some (0,RA s n M 0 2 ([a] ++ [x])):=by kernel_rfl
theorem t101 (s n:Nat) (M:List Int) (a:Int):ring_Take.m 100 (RA s n M 0 1 [a]) 16=some (a,0,RA s n M 1 0 []):=by kernel_rfl
theorem a101 (s n:Nat) (M:List Int) (a:Int):ring_All.m 100 (RA s n M 0 1 [a]) 16=some ([a],RA s n M 0 1 [a]):=by kernel_rfl
theorem p102 (s n:Nat) (M:List Int) (a b:Int) (x:Int):ring_PutI.m 100 (RA s n M 0 2 [a,b]) 16 x=some (9,RA s n M 0 2 [a,b]):=by kernel_rfl
theorem t102 (s n:Nat) (M:List Int) (a b:Int):ring_Take.m 100 (RA s n M 0 2 [a,b]) 16=some (a,0,RA s n M 1 1 [b]):=by kernel_rfl
theorem a102 (s n:Nat) (M:List Int) (a b:Int):ring_All.m 100 (RA s n M 0 2 [a,b]) 16=some ([a,b],RA s n M 0 2 [a,b]):=by kernel_rfl
theorem p110 (s n:Nat) (M:List Int) (x:Int):ring_PutI.m 100 (RA s n M 1 0 []) 16 x=some (0,RA s n M 1 1 ([] ++ [x])):=by kernel_rfl
theorem t110 (s n:Nat) (M:List Int):ring_Take.m 100 (RA s n M 1 0 []) 16=some (0,8,RA s n M 1 0 []):=by kernel_rfl
theorem a110 (s n:Nat) (M:List Int):ring_All.m 100 (RA s n M 1 0 []) 16=some ([],RA s n M 1 0 []):=by kernel_rfl
theorem p111 (s n:Nat) (M:List Int) (a:Int) (x:Int):ring_PutI.m 100 (RA s n M 1 1 [a]) 16 x=some (0,RA s n M 1 2 ([a] ++ [x])):=by kernel_rfl
theorem t111 (s n:Nat) (M:List Int) (a:Int):ring_Take.m 100 (RA s n M 1 1 [a]) 16=some (a,0,RA s n M 0 0 []):=by kernel_rfl
theorem a111 (s n:Nat) (M:List Int) (a:Int):ring_All.m 100 (RA s n M 1 1 [a]) 16=some ([a],RA s n M 1 1 [a]):=by kernel_rfl
theorem p112 (s n:Nat) (M:List Int) (a b:Int) (x:Int):ring_PutI.m 100 (RA s n M 1 2 [a,b]) 16 x=some (9,RA s n M 1 2 [a,b]):=by kernel_rfl
theorem t112 (s n:Nat) (M:List Int) (a b:Int):ring_Take.m 100 (RA s n M 1 2 [a,b]) 16=some (a,0,RA s n M 0 1 [b]):=by kernel_rfl
theorem a112 (s n:Nat) (M:List Int) (a b:Int):ring_All.m 100 (RA s n M 1 2 [a,b]) 16=some ([a,b],RA s n M 1 2 [a,b]):=by kernel_rfl
section
variable {t m s n:Nat} {L M:List Int} {x:Int}
theorem put_all0 (hs:t<3) (hn:L.length=m) (hl:m≤3) (hI:InvH (RA t m L s n M)) (hx:wdB x=true):ring_Put.m 100 (RA t m L s n M) 0 x=if m<3 then some (0,RA t (m+1) (L ++ [x]) s n M) else some (9,RA t m L s n M):=by
  have h5:t=0 ∨ t=1 ∨ t=2:=by omega
  rcases h5 with rfl | rfl | rfl
  · match L,hn with
    | [],hn=>obtain rfl:m=0:=hn.symm; exact (ring_Put.m_ok hI hx).1.symm.trans (p000 _ _ _ _)
    | [a],hn=>obtain rfl:m=1:=hn.symm; exact (ring_Put.m_ok hI hx).1.symm.trans (p001 _ _ _ _ _)
    | [a,b],hn=>obtain rfl:m=2:=hn.symm; exact (ring_Put.m_ok hI hx).1.symm.trans (p002 _ _ _ _ _ _)
    | [a,b,d],hn=>obtain rfl:m=3:=hn.symm; exact (ring_Put.m_ok hI hx).1.symm.trans (p003 _ _ _ _ _ _ _)
    | _::_::_::_::_,hn=>simp at hn; omega
  · match L,hn with
    | [],hn=>obtain rfl:m=0:=hn.symm; exact (ring_Put.m_ok hI hx).1.symm.trans (p010 _ _ _ _)
    | [a],hn=>obtain rfl:m=1:=hn.symm; exact (ring_Put.m_ok hI hx).1.symm.trans (p011 _ _ _ _ _)
    | [a,b],hn=>obtain rfl:m=2:=hn.symm; exact (ring_Put.m_ok hI hx).1.symm.trans (p012 _ _ _ _ _ _)
    | [a,b,d],hn=>obtain rfl:m=3:=hn.symm; exact (ring_Put.m_ok hI hx).1.symm.trans (p013 _ _ _ _ _ _ _)
    | _::_::_::_::_,hn=>simp at hn; omega
  · match L,hn with
    | [],hn=>obtain rfl:m=0:=hn.symm; exact (ring_Put.m_ok hI hx).1.symm.trans (p020 _ _ _ _)
    | [a],hn=>obtain rfl:m=1:=hn.symm; exact (ring_Put.m_ok hI hx).1.symm.trans (p021 _ _ _ _ _)
    | [a,b],hn=>obtain rfl:m=2:=hn.symm; exact (ring_Put.m_ok hI hx).1.symm.trans (p022 _ _ _ _ _ _)
    | [a,b,d],hn=>obtain rfl:m=3:=hn.symm; exact (ring_Put.m_ok hI hx).1.symm.trans (p023 _ _ _ _ _ _ _)
    | _::_::_::_::_,hn=>simp at hn; omega
theorem take_all0 (hs:t<3) (hn:L.length=m) (hl:m≤3):ring_Take.m 100 (RA t m L s n M) 0=match L with | []=>some (0,8,RA t m [] s n M) | y::r=>some (y,0,RA ((t+1) % 3) (m - 1) r s n M):=by
  have h5:t=0 ∨ t=1 ∨ t=2:=by omega
  rcases h5 with rfl | rfl | rfl
  · match L,hn with
    | [],hn=>obtain rfl:m=0:=hn.symm; exact t000 _ _ _
    | [a],hn=>obtain rfl:m=1:=hn.symm; exact t001 _ _ _ _
    | [a,b],hn=>obtain rfl:m=2:=hn.symm; exact t002 _ _ _ _ _
    | [a,b,d],hn=>obtain rfl:m=3:=hn.symm; exact t003 _ _ _ _ _ _
    | _::_::_::_::_,hn=>simp at hn; omega
  · match L,hn with
    | [],hn=>obtain rfl:m=0:=hn.symm; exact t010 _ _ _
    | [a],hn=>obtain rfl:m=1:=hn.symm; exact t011 _ _ _ _
    | [a,b],hn=>obtain rfl:m=2:=hn.symm; exact t012 _ _ _ _ _
    | [a,b,d],hn=>obtain rfl:m=3:=hn.symm; exact t013 _ _ _ _ _ _
    | _::_::_::_::_,hn=>simp at hn; omega
  · match L,hn with
    | [],hn=>obtain rfl:m=0:=hn.symm; exact t020 _ _ _
    | [a],hn=>obtain rfl:m=1:=hn.symm; exact t021 _ _ _ _
    | [a,b],hn=>obtain rfl:m=2:=hn.symm; exact t022 _ _ _ _ _
    | [a,b,d],hn=>obtain rfl:m=3:=hn.symm; exact t023 _ _ _ _ _ _
    | _::_::_::_::_,hn=>simp at hn; omega
theorem all_all0 (hs:t<3) (hn:L.length=m) (hl:m≤3):ring_All.m 100 (RA t m L s n M) 0=some (L,RA t m L s n M):=by
  have h5:t=0 ∨ t=1 ∨ t=2:=by omega
  rcases h5 with rfl | rfl | rfl
  · match L,hn with
    | [],hn=>obtain rfl:m=0:=hn.symm; exact a000 _ _ _
    | [a],hn=>obtain rfl:m=1:=hn.symm; exact a001 _ _ _ _
    | [a,b],hn=>obtain rfl:m=2:=hn.symm; exact a002 _ _ _ _ _
    | [a,b,d],hn=>obtain rfl:m=3:=hn.symm; exact a003 _ _ _ _ _ _
    | _::_::_::_::_,hn=>simp at hn; omega
  · match L,hn with
    | [],hn=>obtain rfl:m=0:=hn.symm; exact a010 _ _ _
    | [a],hn=>obtain rfl:m=1:=hn.symm; exact a011 _ _ _ _
    | [a,b],hn=>obtain rfl:m=2:=hn.symm; exact a012 _ _ _ _ _
    | [a,b,d],hn=>obtain rfl:m=3:=hn.symm; exact a013 _ _ _ _ _ _
    | _::_::_::_::_,hn=>simp at hn; omega
  · match L,hn with
    | [],hn=>obtain rfl:m=0:=hn.symm; exact a020 _ _ _
    | [a],hn=>obtain rfl:m=1:=hn.symm; exact a021 _ _ _ _
    | [a,b],hn=>obtain rfl:m=2:=hn.symm; exact a022 _ _ _ _ _
    | [a,b,d],hn=>obtain rfl:m=3:=hn.symm; exact a023 _ _ _ _ _ _
    | _::_::_::_::_,hn=>simp at hn; omega
theorem put_all1 (hs:t<2) (hn:L.length=m) (hl:m≤2) (hI:InvH (RA s n M t m L)) (hx:wdB x=true):ring_Put.m 100 (RA s n M t m L) 16 x=if m<2 then some (0,RA s n M t (m+1) (L ++ [x])) else some (9,RA s n M t m L):=by
  have h5:t=0 ∨ t=1:=by omega
  rcases h5 with rfl | rfl
  · match L,hn with
    | [],hn=>obtain rfl:m=0:=hn.symm; exact (ring_Put.m_ok hI hx).1.symm.trans (p100 _ _ _ _)
    | [a],hn=>obtain rfl:m=1:=hn.symm; exact (ring_Put.m_ok hI hx).1.symm.trans (p101 _ _ _ _ _)
    | [a,b],hn=>obtain rfl:m=2:=hn.symm; exact (ring_Put.m_ok hI hx).1.symm.trans (p102 _ _ _ _ _ _)
    | _::_::_::_,hn=>simp at hn; omega
  · match L,hn with
    | [],hn=>obtain rfl:m=0:=hn.symm; exact (ring_Put.m_ok hI hx).1.symm.trans (p110 _ _ _ _)
    | [a],hn=>obtain rfl:m=1:=hn.symm; exact (ring_Put.m_ok hI hx).1.symm.trans (p111 _ _ _ _ _)
    | [a,b],hn=>obtain rfl:m=2:=hn.symm; exact (ring_Put.m_ok hI hx).1.symm.trans (p112 _ _ _ _ _ _)
    | _::_::_::_,hn=>simp at hn; omega
theorem take_all1 (hs:t<2) (hn:L.length=m) (hl:m≤2):ring_Take.m 100 (RA s n M t m L) 16=match L with | []=>some (0,8,RA s n M t m []) | y::r=>some (y,0,RA s n M ((t+1) % 2) (m - 1) r):=by
  have h5:t=0 ∨ t=1:=by omega
  rcases h5 with rfl | rfl
  · match L,hn with
    | [],hn=>obtain rfl:m=0:=hn.symm; exact t100 _ _ _
    | [a],hn=>obtain rfl:m=1:=hn.symm; exact t101 _ _ _ _
    | [a,b],hn=>obtain rfl:m=2:=hn.symm; exact t102 _ _ _ _ _
    | _::_::_::_,hn=>simp at hn; omega
  · match L,hn with
    | [],hn=>obtain rfl:m=0:=hn.symm; exact t110 _ _ _
    | [a],hn=>obtain rfl:m=1:=hn.symm; exact t111 _ _ _ _
    | [a,b],hn=>obtain rfl:m=2:=hn.symm; exact t112 _ _ _ _ _
    | _::_::_::_,hn=>simp at hn; omega
theorem all_all1 (hs:t<2) (hn:L.length=m) (hl:m≤2):ring_All.m 100 (RA s n M t m L) 16=some (L,RA s n M t m L):=by
  have h5:t=0 ∨ t=1:=by omega
  rcases h5 with rfl | rfl
  · match L,hn with
    | [],hn=>obtain rfl:m=0:=hn.symm; exact a100 _ _ _
    | [a],hn=>obtain rfl:m=1:=hn.symm; exact a101 _ _ _ _
    | [a,b],hn=>obtain rfl:m=2:=hn.symm; exact a102 _ _ _ _ _
    | _::_::_::_,hn=>simp at hn; omega
  · match L,hn with
    | [],hn=>obtain rfl:m=0:=hn.symm; exact a110 _ _ _
    | [a],hn=>obtain rfl:m=1:=hn.symm; exact a111 _ _ _ _
    | [a,b],hn=>obtain rfl:m=2:=hn.symm; exact a112 _ _ _ _ _
    | _::_::_::_,hn=>simp at hn; omega
end
theorem sameO {L:List Int} {k:Nat} (h1000:L.length<1000):∀ (d i f:Nat),i+d=L.length→d<f→help_SameO.l1 L L k f (i:Int)=some true
  | 0,i,f,hi,hf=>by
    obtain ⟨f,rfl⟩:∃ g,f=g+1:=⟨f - 1,by omega⟩
    show help_SameO.l1b L L k (help_SameO.l1 L L k f) (i:Int)=some true
    unfold help_SameO.l1b
    rw [if_neg (by simp; omega)]
  | d+1,i,f,hi,hf=>by
    obtain ⟨f,rfl⟩:∃ g,f=g+1:=⟨f - 1,by omega⟩
    have ih:=sameO (k:=k) h1000 d (i+1) f (by omega) (by omega)
    show help_SameO.l1b L L k (help_SameO.l1 L L k f) (i:Int)=some true
    unfold help_SameO.l1b help_eq.m
    rw [if_pos (by simp; omega),if_pos (by simp [inR]; omega),if_pos (by simp [inR]; omega),bind1_some,if_neg (by simp)]
    have e:IntKind.i64.wrap ((i:Int)+1)=((i+1:Nat):Int):=by rw [IntKind.wrap_i64]; omega
    rw [e]; exact ih
theorem plainO {L:List Int} (h:L.length<99):help_PlainO.m 100 L L=some true:=by
  unfold help_PlainO.m help_SameO.m
  rw [if_neg (by simp)]
  have e:help_SameO.l1 L L 100 100 0=some true:=sameO (k:=100) (by omega) L.length 0 100 (by omega) (by omega)
  rw [e,bind1_some]
section
variable {K0 K1:List Int}
theorem loop (hK:AllW K0):∀ (d i f:Nat) (s0 n0:Nat) (L0:List Int) (s1 n1:Nat) (L1:List Int),i+d=40→d<f→s0<3→L0.length=n0→n0≤3→AllW L0→s1<2→L1.length=n1→n1≤2→AllW L1→InvH (RA s0 n0 L0 s1 n1 L1)→RingApart.l16 K0 K1 100 [0,16] f L1 L0 (RA s0 n0 L0 s1 n1 L1) (i:Int)=some true
  | 0,i,f,s0,n0,L0,s1,n1,L1,hi,hf,a0,b0,c0,w0,a1,b1,c1,w1,hI=>by
    obtain ⟨f,rfl⟩:∃ g,f=g+1:=⟨f - 1,by omega⟩
    show RingApart.l16b K0 K1 100 [0,16] (RingApart.l16 K0 K1 100 [0,16] f) L1 L0 (RA s0 n0 L0 s1 n1 L1) (i:Int)=some true
    unfold RingApart.l16b
    have e:decide ((i:Int)<40)=false:=by simp; omega
    rw [e,ite_self,ite_self]
    rfl
  | d+1,i,f,s0,n0,L0,s1,n1,L1,hi,hf,a0,b0,c0,w0,a1,b1,c1,w1,hI=>by
    obtain ⟨f,rfl⟩:∃ g,f=g+1:=⟨f - 1,by omega⟩
    have ih:=loop hK d (i+1) f
    show RingApart.l16b K0 K1 100 [0,16] (RingApart.l16 K0 K1 100 [0,16] f) L1 L0 (RA s0 n0 L0 s1 n1 L1) (i:Int)=some true
    unfold RingApart.l16b
    by_cases h1:decide ((i:Int)<(K1.length:Int))=true
    · by_cases h0:decide ((i:Int)<(K0.length:Int))=true
      · have e40:decide ((i:Int)<40)=true:=by simp; omega
        have in1:inR (i:Int) K1.length=true:=by simp [inR]; simpa using h1
        have in0:inR (i:Int) K0.length=true:=by simp [inR]; simpa using h0
        rw [if_pos h1,if_pos h0,e40]
        unfold RingApart.j17
        rw [if_pos rfl,if_pos in1,bind1_some]
        have rest:∀ (s0 n0:Nat) (L0:List Int) (s1 n1:Nat) (L1:List Int),s0<3→L0.length=n0→n0≤3→AllW L0→s1<2→L1.length=n1→n1≤2→AllW L1→InvH (RA s0 n0 L0 s1 n1 L1)→RingApart.j18 100 [0,16] (i:Int) (RingApart.l16 K0 K1 100 [0,16] f) (RA s0 n0 L0 s1 n1 L1) L1 L0=some true:=by
          intro s0 n0 L0 s1 n1 L1 a0 b0 c0 w0 a1 b1 c1 w1 hI
          unfold RingApart.j18
          rw [if_neg (by simp; omega),if_neg (by simp; omega),if_pos (by rfl),show atI [0,16] (0:Int)=0 from rfl,all_all0 a0 b0 c0,bind2_some,plainO (by omega),bind1_some,if_neg (by decide),if_pos (by rfl),show atI [0,16] (1:Int)=16 from rfl,all_all1 a1 b1 c1,bind2_some,plainO (by omega),bind1_some]
          unfold RingApart.j19
          have e:IntKind.i64.wrap ((i:Int)+1)=((i+1:Nat):Int):=by rw [IntKind.wrap_i64]; omega
          rw [if_neg (by decide),e]
          exact ih s0 n0 L0 s1 n1 L1 (by omega) (by omega) a0 b0 c0 w0 a1 b1 c1 w1 hI
        obtain ⟨m,hm,em⟩:=u_mod (atI K1 (i:Int)) 2 (by omega)
        simp only [Int.cast_ofNat_Int] at em
        have hx:wdB (atI K0 (i:Int))=true:=hK.at _
        have hm2:m=0 ∨ m=1:=by omega
        rcases hm2 with rfl | rfl
        · have ek:IntKind.i64.wrap (Int.tmod (IntKind.u64.wrap (atI K1 (i:Int))) 2)=0:=by rw [em]; rfl
          rw [ek]
          split
          · rw [if_pos (by rfl),show atI [0,16] (0:Int)=0 from rfl]
            have e:=take_all0 a0 b0 c0 (s:=s1) (n:=n1) (M:=L1)
            have a:=ring_Take.m_ok (k:=100) (i1:=0) hI
            cases L0 with
            | nil =>
              simp only at e
              rw [e,bind3_some,if_pos (by decide),if_neg (by decide),if_neg (by decide)]
              unfold RingApart.j20
              rw [if_neg (by decide),if_neg (by decide)]
              unfold RingApart.j21
              exact rest s0 n0 _ s1 n1 _ a0 b0 c0 w0 a1 b1 c1 w1 (a.2 _ e)
            | cons y r =>
              simp only [List.length_cons] at b0
              simp only at e
              have hd:dropM (y::r) (1:Int)=some r:=by unfold dropM; rw [if_pos (by simp <;> omega)]; rfl
              have h0':inR (0:Int) (y::r).length=true:=by simp [inR] <;> omega
              have hat:atI (y::r) (0:Int)=y:=rfl
              rw [e,bind3_some,if_pos (by decide),if_neg (by simp <;> omega),if_pos (by decide),if_pos h0',hat]
              unfold RingApart.j20
              rw [if_neg (by simp),if_pos (by decide),if_pos (by decide),if_pos h0',hd,bind1_some]
              unfold RingApart.j21
              exact rest ((s0+1) % 3) (n0 - 1) r s1 n1 L1 (by omega) (by omega) (by omega) (fun z hz=>w0 z (List.mem_cons_of_mem _ hz)) a1 b1 c1 w1 (a.2 _ e)
          · rw [if_pos (show inR (0:Int) ([0,16]:List Int).length=true from rfl),show atI [0,16] (0:Int)=0 from rfl]
            have a:=ring_Put.m_ok (k:=100) (i1:=0) hI hx
            have e:=put_all0 a0 b0 c0 hI hx
            by_cases h:n0<3
            · rw [if_pos h] at e
              have hp:pushM L0 (atI K0 (i:Int))=some (L0 ++ [atI K0 (i:Int)]):=by unfold pushM; rw [if_pos (by omega)]
              rw [e,bind2_some,if_pos (by decide),if_pos (by decide),hp,bind1_some]
              unfold RingApart.j23 RingApart.j22
              exact rest s0 (n0+1) _ s1 n1 L1 a0 (by simp [b0]) (by omega) (w0.push hx hp) a1 b1 c1 w1 (a.2 _ e)
            · rw [if_neg h] at e
              rw [e,bind2_some,if_neg (by decide)]
              unfold RingApart.j22
              exact rest s0 n0 L0 s1 n1 L1 a0 b0 c0 w0 a1 b1 c1 w1 (a.2 _ e)
        · have ek:IntKind.i64.wrap (Int.tmod (IntKind.u64.wrap (atI K1 (i:Int))) 2)=1:=by rw [em]; rfl
          rw [ek]
          split
          · rw [if_pos (by rfl),show atI [0,16] (1:Int)=16 from rfl]
            have e:=take_all1 a1 b1 c1 (s:=s0) (n:=n0) (M:=L0)
            have a:=ring_Take.m_ok (k:=100) (i1:=16) hI
            cases L1 with
            | nil =>
              simp only at e
              rw [e,bind3_some,if_neg (by decide),if_pos (by decide),if_neg (by decide),if_neg (by decide)]
              unfold RingApart.j20
              rw [if_neg (by decide),if_neg (by decide)]
              unfold RingApart.j21
              exact rest s0 n0 _ s1 n1 _ a0 b0 c0 w0 a1 b1 c1 w1 (a.2 _ e)
            | cons y r =>
              simp only [List.length_cons] at b1
              simp only at e
              have hd:dropM (y::r) (1:Int)=some r:=by unfold dropM; rw [if_pos (by simp <;> omega)]; rfl
              have h0':inR (0:Int) (y::r).length=true:=by simp [inR] <;> omega
              have hat:atI (y::r) (0:Int)=y:=rfl
              rw [e,bind3_some,if_neg (by decide),if_pos (by decide),if_neg (by simp <;> omega),if_pos (by decide),if_pos h0',hat]
              unfold RingApart.j20
              rw [if_neg (by simp),if_pos (by decide),if_neg (by decide),if_pos (by decide),if_pos h0',hd,bind1_some]
              unfold RingApart.j21
              exact rest s0 n0 L0 ((s1+1) % 2) (n1 - 1) r a0 b0 c0 w0 (by omega) (by omega) (by omega) (fun z hz=>w1 z (List.mem_cons_of_mem _ hz)) (a.2 _ e)
          · rw [if_pos (show inR (1:Int) ([0,16]:List Int).length=true from rfl),show atI [0,16] (1:Int)=16 from rfl]
            have a:=ring_Put.m_ok (k:=100) (i1:=16) hI hx
            have e:=put_all1 a1 b1 c1 hI hx
            by_cases h:n1<2
            · rw [if_pos h] at e
              have hp:pushM L1 (atI K0 (i:Int))=some (L1 ++ [atI K0 (i:Int)]):=by unfold pushM; rw [if_pos (by omega)]
              rw [e,bind2_some,if_pos (by decide),if_neg (by decide),if_pos (by decide),hp,bind1_some]
              unfold RingApart.j23 RingApart.j22
              exact rest s0 n0 L0 s1 (n1+1) _ a0 b0 c0 w0 a1 (by simp [b1]) (by omega) (w1.push hx hp) (a.2 _ e)
            · rw [if_neg h] at e
              rw [e,bind2_some,if_neg (by decide)]
              unfold RingApart.j22
              exact rest s0 n0 L0 s1 n1 L1 a0 b0 c0 w0 a1 b1 c1 w1 (a.2 _ e)
      · have:decide ((i:Int)<(K0.length:Int))=false:=by simpa using h0
        rw [if_pos h1,this]
        rfl
    · have:decide ((i:Int)<(K1.length:Int))=false:=by simpa using h1
      rw [this]
      rfl
theorem made_is:law12_made.m 100 [3,2] 1=some (RA 0 0 [] 0 0 [],RA 0 0 [] 0 0 [],[0,16],[64,80]):=by kernel_rfl
theorem fin (hK:AllW K0) (haw:law12_awake.m 100=some true):RingApart.m 100 K0 K1=some true:=by
  obtain ⟨i,v⟩:=(law12_made.m_ok (k:=100)).2 _ made_is
  unfold RingApart.m
  rw [made_is,bind4_some,haw,bind1_some,if_neg (by decide)]
  unfold RingApart.j1
  rw [if_neg (by decide)]
  exact loop hK 40 0 100 0 0 [] 0 0 [] (by omega) (by omega) (by omega) rfl (by omega) .nil (by omega) rfl (by omega) .nil i
end
end ra
end Go.Proofs.YtaojmbkmicjecaaGreat
/-
  The walk of 'dormouselaw12.RingApart': the call returns true, in a world with at most new blocks.
-/
namespace Go.Proofs.YtaojmbkmicjecaaGreat.ringApart
open Go.RowKit
set_option linter.unusedVariables false

open ra
theorem awake_is : law12_awake.m 100 = some true := by decide +kernel
theorem walk (a0 : Option Addr) (len0 cap0 : Nat) (z0 : List Int) (a1 : Option Addr) (len1 cap1 : Nat) (z1 : List Int) (w : World) (w0 : IsRow .i64 w a0 len0 cap0 z0) (w1 : IsRow .i64 w a1 len1 cap1 z1) :
    Calls Tryz.prog 6 #[.slice a0 len0 cap0, .slice a1 len1 cap1] w fun e w' => e = .returned (.bool true) ∧ Below w.heap.size w w' := by
  obtain ⟨L, e, hA⟩ := argInts_len w0
  subst e
  obtain ⟨M, e, hB⟩ := argInts_len w1
  subst e
  refine (RingApart.ok hA hB (St.empty w) (fin (fun x hx => ?_) awake_is)).mono fun e w' ⟨he, h⟩ => ⟨he, h.old⟩
  have := hA.1 x hx
  unfold Wd at this
  simp [wdB]; omega

end Go.Proofs.YtaojmbkmicjecaaGreat.ringApart
/-
  'RingApartSaid' ('dormouselaw12.RingApart'): for every input the law returns true, and each argument reads behind the call as it did before.
  Conditions: none beyond the given row's own.
-/
namespace Go.Proofs.YtaojmbkmicjecaaGreat.ringApart
open Go.ChangeShapes Go.WideShapes Go.ChangeAt Go.RowKit
open Go.ChangeMaps (open_string shut_string)
set_option linter.unusedVariables false

theorem own : ownKnob Tryz.prog.godebug = none := by kernel_rfl
theorem laidOut : laidOutB Tryz.prog = true := by kernel_rfl

/-! ### THE ROW's STEP: WRITTEN OUT: LEAVE IT -/
set_option maxRecDepth 100000 in
theorem lifted (os : Os) (started : os.Started) (H : Type) (enc : TypeId × Value → H) :
    ReturnsInHanded {} Tryz.checked os 6 .any (Rows.ringApartSpec.pre6 enc Tryz.prog Tryz.f6 Rows.ringApartRow.domain false) (Rows.ringApartSpec.post enc Tryz.prog Tryz.f6 false true false false) := by
  refine returnsInHanded_of_change (C := Tryz.checked) own started (by kernel_rfl) Tryz.func6
    (ChangeSpec.witness6 (enc := enc) (C := Tryz.checked) false ⟨#[], #[.slice none 0 0, .slice none 0 0], []⟩ 8 (by kernel_rfl) (by kernel_rfl) (by kernel_rfl) (by kernel_rfl)) ?_
  intro W base args ds gs before hval0 hW hcnd _
  have hval : ∀ (j : Nat) t v, Tryz.f6.params[j]? = some t → args[j]? = some v → Value.okWide Tryz.prog W .any base t v := hval0
  have hW' := hW
  obtain ⟨p, q, hA0, hV, rfl, hfz, hnd⟩ := hW
  have hA : DataW.TrodAll enc Tryz.prog W 0 (fun _ => true) true Tryz.f6.params.toList args.toList ds p := hA0
  rw [Tryz.params6] at hA hval
  obtain ⟨v0, vs0, d0, ds0, p0, q0, hargs, rfl, rfl, h0, r0⟩ := trodAll_cons hA
  obtain ⟨v1, vs1, d1, ds1, p1, q1, rfl, rfl, rfl, h1, r1⟩ := trodAll_cons r0
  obtain ⟨rfl, rfl, rfl⟩ := trodAll_nil r1
  obtain rfl : args = #[v0, v1] := by cases args; simp_all
  obtain ⟨rfl, rfl⟩ := trodVars_none hV
  obtain ⟨a0, len0, cap0, rfl⟩ := okWide_slice Tryz.underlying22 (hval 0 22 v0 rfl rfl)
  have k0 := h0
  have lt0 : ∀ x ∈ p0, x.block < W.heap.size := by obtain ⟨m, hm⟩ := k0; exact DataW.trod_lt m _ _ _ hm
  obtain ⟨z0, w0⟩ : ∃ zs, IsRow .i64 W a0 len0 cap0 zs := by
    obtain ⟨fuel, hf⟩ := h0
    rcases open_ints Tryz.underlying22 Tryz.underlying3 (by kernel_rfl) hf with ⟨hcs, _⟩ | ⟨x, l, c, zs, hcs, _, hl, hm, hz, _, hcell, hwz⟩
    · simp [Value.cells] at hcs
      obtain ⟨rfl, rfl, rfl⟩ := hcs
      exact ⟨[], .inl ⟨rfl, rfl, rfl, rfl⟩⟩
    · simp [Value.cells] at hcs
      obtain ⟨rfl, rfl, rfl⟩ := hcs
      exact ⟨zs, .inr ⟨_, rfl, hl, hm, by simpa using hz, hcell, hwz⟩⟩
  obtain ⟨a1, len1, cap1, rfl⟩ := okWide_slice Tryz.underlying22 (hval 1 22 v1 rfl rfl)
  have k1 := h1
  have lt1 : ∀ x ∈ p1, x.block < W.heap.size := by obtain ⟨m, hm⟩ := k1; exact DataW.trod_lt m _ _ _ hm
  obtain ⟨z1, w1⟩ : ∃ zs, IsRow .i64 W a1 len1 cap1 zs := by
    obtain ⟨fuel, hf⟩ := h1
    rcases open_ints Tryz.underlying22 Tryz.underlying3 (by kernel_rfl) hf with ⟨hcs, _⟩ | ⟨x, l, c, zs, hcs, _, hl, hm, hz, _, hcell, hwz⟩
    · simp [Value.cells] at hcs
      obtain ⟨rfl, rfl, rfl⟩ := hcs
      exact ⟨[], .inl ⟨rfl, rfl, rfl, rfl⟩⟩
    · simp [Value.cells] at hcs
      obtain ⟨rfl, rfl, rfl⟩ := hcs
      exact ⟨zs, .inr ⟨_, rfl, hl, hm, by simpa using hz, hcell, hwz⟩⟩
  clear hA0 hval0
  refine (walk a0 len0 cap0 z0 a1 len1 cap1 z1 W w0 w1).mono fun e W' ⟨he, bel⟩ => ?_
  subst he
  exact ⟨_, rfl, _, _, _, [], _, [], hW', trodAll_mk1 (shut_bool Tryz.underlying4 _), (trodAll_cons_mk (Below.trod laidOut (by kernel_rfl) (of_decide_eq_true (by kernel_rfl)) k0 bel lt0) (trodAll_cons_mk (Below.trod laidOut (by kernel_rfl) (of_decide_eq_true (by kernel_rfl)) k1 bel lt1) trodAll_mk0)), rfl, bel.frame _, fun h => by cases h⟩

theorem over : Rows.ringApartRow.holds Tryz.pinned (OpenSpec.ofChange Rows.ringApartSpec) :=
  OpenClaim.holds_of_wide 6 Tryz.f6 rfl rfl rfl rfl rfl rfl rfl ⟨rfl, rfl, rfl, rfl, rfl⟩ rfl rfl rfl rfl rfl (by kernel_rfl) Tryz.func6 (by kernel_rfl)
    (of_decide_eq_true (by kernel_rfl)) (by unfold Func.isWrapper; first | (rw [if_pos (by decide +kernel)]; kernel_rfl) | (rw [if_neg (by decide +kernel)]; exact ⟨rfl, rfl⟩))
    (fun os started H enc _ => lifted os started H enc)

/-- ████ THE STATEMENT ████ -/
theorem proved : Rows.RingApartSaid := over
#print axioms proved
end Go.Proofs.YtaojmbkmicjecaaGreat.ringApart
