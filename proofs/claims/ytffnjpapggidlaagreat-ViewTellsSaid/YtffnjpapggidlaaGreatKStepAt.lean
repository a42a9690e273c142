/- StepAt RowOf QuietAdd SameStr Arr8 -/
import Derived.Test.YtffnjpapggidlaaGreatKMem
import Derived.Test.YtffnjpapggidlaaGreatKPlain
import Derived.Test.YtffnjpapggidlaaGreatKSpan5
import Derived.Deep.RegionLaw
import Derived.WalkKit
import Derived.Laws.AppendOwn
import Derived.Deep.QuietTactic
import Derived.Test.YtffnjpapggidlaaGreatRows
import Derived.WalkSpells
import Derived.WalkLawsBesides
import Derived.BigQuiet
import Derived.Lib.Hide
namespace Go.Proofs.YtffnjpapggidlaaGreat
open Go.RowKit
theorem step_append_at {P:Program} {ops:Array Oper} {o:Oper} {a:Act} {w:World} {K:Act→World→Prop} {Q:Exit→Act→World→Prop} {E:Prop} (hgd:o.guard=none) (s x:Operand) (t:TypeId)
    (ho:o.op=.call { callee:=.builtin .append,args:=#[s,x],argTypes:=#[t,t] })
    (base:Nat) (e:TypeId) (i:TypeInfo) (z:Value) (size bytes:Nat) (ht:P.underlying t=some (.slice e)) (hi:P.info? e=some i) (hz:i.zero=some z)
    (hsize:i.size=size) (hby:i.bytes=bytes) (hzs:z.cells.size=size) (hsz:0<size)
    (v:Value) (n:Nat) (xs:List Value) (hs:a.eval s=v) (hown:w.ownsRow base e size v n xs)
    (ad:Addr) (m c:Nat) (news:List Value) (hx:a.eval x=.slice (some ad) m c) (hl:news.length=m * size) (hnews:∀ j u,news[j]?=some u→w.cell? (ad.add j)=some u) (h1:∀ u ∈ news,u.oneCell'=true)
    (h63:n+m≤maxLen) (hbytes:(n+m) * bytes≤140737488355328) (hbase:base≤w.heap.size)
    (h:∀ v' w',w'.ownsRow base e size v' (n+m) (xs ++ news)→w.grownBy w' v.ownBlock→(v'=.slice none 0 0 ↔ v=.slice none 0 0∧m=0)→(v'.ownBlock=v.ownBlock ∨ v'.ownBlock=some w.heap.size)→K (a.put o.dst v') w') :
    if Region.wanted o (yielded ops a.tmps)=true then Oper.wp P o a w K Q else E:=by
  have hw:Region.wanted o (yielded ops a.tmps)=true:=by simp [Region.wanted,hgd]
  rw [if_pos hw]
  obtain ⟨v',w',hr,h2,h3,h4,h5⟩:=run_append_own_at (P:=P) w base t o.type e i z size bytes ht hi hz hsize hby hzs hsz v n xs hown ad m c news hl hnews h1 h63 hbytes hbase
  unfold Oper.wp execOp
  simp only [ho,resolve,invoke,builtin,Sem.run_bind,Sem.run_pure,Result.andThen_ok,List.map_toArray,List.map_cons,List.map_nil,hs,hx,hr]
  exact h v' w' h2 h3 h4 h5
end Go.Proofs.YtffnjpapggidlaaGreat
namespace Go.Proofs.YtffnjpapggidlaaGreat
open Go.RowKit
def Row (w:World) (v:Value) (xs:List Value):Prop :=
  xs.length≤maxLen∧∃ (p:Option Addr) (cap:Nat),v=.slice p xs.length cap∧(xs.length=0 ∨ ∃ b o,p=some ⟨b,o,none⟩∧∀ i u,xs[i]?=some u→w.cell? ⟨b,o+i,none⟩=some u)
theorem Row.nil (w:World):Row w (.slice none 0 0) []:=⟨by simp,none,0,rfl,.inl rfl⟩
theorem Row.below {B:Nat} {w w':World} {v:Value} {xs:List Value} (h:Row w v xs) (hb:Below B w w') (hv:∀ b,v.ownBlock=some b→b<B):Row w' v xs:=by
  obtain ⟨hl,p,cap,rfl,h⟩:=h
  refine ⟨hl,p,cap,rfl,h.imp id ?_⟩
  rintro ⟨b,o,rfl,hc⟩
  exact ⟨b,o,rfl,fun i u hu=>(hb.cell (p:=⟨b,o+i,none⟩) (hv b rfl)).trans (hc i u hu)⟩
theorem Row.of_own {w:World} {B e:Nat} {v:Value} {n:Nat} {xs:List Value} (h:w.ownsRow B e 1 v n xs):Row w v xs:=by
  have hc:=@World.ownsRow.cells w B e 1 v n xs h
  obtain ⟨hl,⟨rfl,rfl⟩ | ⟨g,cap,cur,rfl,hB,hg,hn,hm,hs,ht⟩⟩:=h
  · have:xs=[]:=List.eq_nil_of_length_eq_zero (by simpa using hl)
    subst this; exact Row.nil w
  · have e1:xs.length=n:=by simpa using hl
    refine ⟨by omega,some ⟨g,0,none⟩,cap,by rw [e1],.inr ⟨g,0,rfl,fun i u hu=>?_⟩⟩
    have:=hc rfl i u hu
    by_cases h0:i=0
    · subst h0; simpa [Addr.add] using this
    · simpa [Addr.add,h0] using this
end Go.Proofs.YtffnjpapggidlaaGreat
namespace Go.Proofs.YtffnjpapggidlaaGreat
theorem quiet_add {P:Program} {f:FuncId} {args:Array Value} {w:World} {a n:Nat} {v:Value}
    (h:Calls P f args (w.drewN (a+n)) fun e w'=>e=.returned v∧∃ m,w'=(w.drewN (a+n)).drewN m) :
    Calls P f args (w.drewN (a+n)) fun e w''=>e=.returned v∧∃ m,w''=w.drewN (a+m) :=
  h.mono fun _ _ ⟨he,m,hm⟩=>⟨he,n+m,by rw [hm,World.drewN_drewN,Nat.add_assoc]⟩
theorem quiet_add_left {P:Program} {f:FuncId} {args:Array Value} {w:World} {a n:Nat} {v:Value}
    (h:Calls P f args (w.drewN (a+n)) fun e w'=>e=.returned v∧w.drewN (a+n)=w') :
    Calls P f args (w.drewN (a+n)) fun e w''=>e=.returned v∧∃ m,w''=w.drewN (a+m) :=
  h.mono fun _ _ ⟨he,hm⟩=>⟨he,n,hm.symm⟩
theorem quiet_left {P:Program} {f:FuncId} {args:Array Value} {w:World} {n:Nat} {v:Value}
    (h:Calls P f args (w.drewN n) fun e w'=>e=.returned v∧w.drewN n=w'):Calls P f args (w.drewN n) fun e w''=>e=.returned v∧∃ m,w''=w.drewN m :=
  h.mono fun _ _ ⟨he,hm⟩=>⟨he,n,hm.symm⟩
end Go.Proofs.YtffnjpapggidlaaGreat
namespace Go.Proofs.YtffnjpapggidlaaGreat
open Go.RowKit
theorem bytes_beq (a b:ByteArray):(a.toList == b.toList)=decide (a=b):=by
  by_cases h:a=b
  · subst h; simp
  · have:a.toList≠b.toList:=fun e=>h (by
      rw [ByteArray.toList_eq,ByteArray.toList_eq] at e
      exact ByteArray.ext (Array.toList_inj.mp e))
    simp [h,this]
end Go.Proofs.YtffnjpapggidlaaGreat
namespace Go.Proofs.YtffnjpapggidlaaGreat
open Go.RowKit
theorem arr8 (q0 q1 q2 q3 q4 q5 q6 q7:Bool) (w:World) :
    (Op.equalIn 10000 268 (.agg #[.bool q0,.bool q1,.bool q2,.bool q3,.bool q4,.bool q5,.bool q6,.bool q7]) (.agg #[.bool false,.bool false,.bool false,.bool false,.bool false,.bool false,.bool false,.bool false])).run Tryz.prog w =
      .ok (!(q0 || q1 || q2 || q3 || q4 || q5 || q6 || q7)) w:=by
  cases q0 <;> cases q1 <;> cases q2 <;> cases q3 <;> cases q4 <;> cases q5 <;> cases q6 <;> cases q7 <;> kernel_rfl
end Go.Proofs.YtffnjpapggidlaaGreat
