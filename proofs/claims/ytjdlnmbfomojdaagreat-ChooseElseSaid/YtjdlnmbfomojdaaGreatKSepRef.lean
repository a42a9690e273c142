/- SepRef StepAt -/
import Derived.Test.YtjdlnmbfomojdaaGreatKMem
import Derived.Test.YtjdlnmbfomojdaaGreatKRefSpan3
import Derived.Test.YtjdlnmbfomojdaaGreatKClass
import Derived.Deep.RegionLaw
namespace Go.Proofs.YtjdlnmbfomojdaaGreat
open Go.RowKit
set_option linter.unusedVariables false
def RSpanP (b:Nat) (l:List SRow):Piece where
  at' w F:=RSpanAt w b l F
  keep h k hd:=h.keep k hd
  lt h:=h.lt
section
variable {w0 w:World} {F0:List Nat} {ps:List Piece} {b:Nat} {l:List SRow}
theorem St.rspan (h:St w0 F0 ps w) (k:Nat) (hk:ps[k]?=some (RSpanP b l)):(∀ r ∈ l,RowOk r)∧l.length≤128:=by
  obtain ⟨G,g1,c1,g2,c2,h1,h2,h3,m1,m2,_,h128,hok,_⟩:=h.get k hk
  exact ⟨hok,h128⟩
theorem St.rclass (h:St w0 F0 ps w) (k:Nat) (hk:ps[k]?=some (RSpanP b l)):∃ g c,w.cell? ⟨b,0,none⟩=some (.slice (some ⟨g,0,none⟩) l.length c)∧∀ i (hi:i<l.length),w.cell? ⟨g,i,none⟩=some (.int .i64 l[i].1):=by
  obtain ⟨G,g1,c1,g2,c2,h1,h2,h3,m1,m2,_,h128,hok,_⟩:=h.get k hk
  have e0:=h1.cell 0
  simp at e0
  exact ⟨g1,c1,e0,fun i hi=>(h2.cell i hi).1⟩
theorem rs_Used (h:St w0 F0 ps w) (k:Nat) (hk:ps[k]?=some (RSpanP b l)) (a s:Int) :
    Calls Tryz.prog 103 #[.pointer (some ⟨b,0,none⟩),.int .i64 a,.int .i64 s] w fun e w'=>e=.returned (.bool (sUsed l a s))∧w=w':=by
  obtain ⟨F,h1⟩:=h.get k hk; exact rspan_Used _ _ _ _ _ _ h1
theorem rs_Alloc (h:St w0 F0 (RSpanP b l::ps) w) (k:Int) :
    Calls Tryz.prog 59 #[.pointer (some ⟨b,0,none⟩),.int .i64 k] w fun e w'=>e=.returned (sAllocV k l)∧St w0 F0 (RSpanP b (sAllocL k l)::ps) w' :=
  h.call (p':=RSpanP b (sAllocL k l)) fun F h1=>(rspan_Alloc _ _ _ _ _ h1).mono fun e w' ⟨he,a,k⟩=>⟨he,F,a,k,fun i hi=>.inl hi⟩
end
end Go.Proofs.YtjdlnmbfomojdaaGreat
namespace Go.Proofs.YtjdlnmbfomojdaaGreat
open Go.RowKit
theorem step_append_at {P:Program} {ops:Array Oper} {o:Oper} {a:Act} {w:World} {K:Act→World→Prop} {Q:Exit→Act→World→Prop} {E:Prop} (hgd:o.guard=none) (s x:Operand) (t:TypeId)
    (ho:o.op=.call { callee:=.builtin .append,args:=#[s,x],argTypes:=#[t,t] })
    (base:Nat) (e:TypeId) (i:TypeInfo) (z:Value) (size bytes:Nat) (ht:P.underlying t=some (.slice e)) (hi:P.info? e=some i) (hz:i.zero=some z)
    (hsize:i.size=size) (hby:i.bytes=bytes) (hzs:z.cells.size=size) (hsz:0<size)
    (v:Value) (n:Nat) (xs:List Value) (hs:a.eval s=v) (hown:w.ownsRow base e size v n xs)
    (ad:Addr) (m c:Nat) (news:List Value) (hx:a.eval x=.slice (some ad) m c) (hl:news.length=m * size) (hnews:∀ j u,news[j]?=some u→w.cell? (ad.add j)=some u) (h1:∀ u ∈ news,u.oneCell'=true)
    (h63:n+m≤maxLen) (hbytes:(n+m) * bytes≤140737488355328) (hbase:base≤w.heap.size)
    (h:∀ v' w',w'.ownsRow base e size v' (n+m) (xs ++ news)→w.grownBy w' v.ownBlock→(v'=.slice none 0 0 ↔ v=.slice none 0 0∧m=0)→(v'.ownBlock=v.ownBlock ∨ v'.ownBlock=some w.heap.size)→K (a.put o.dst v') w') :
    if Region.wanted o (yielded ops a.tmps)=true then Oper.wp P o a w K Q else E:=by
  have hw:Region.wanted o (yielded ops a.tmps)=true:=by simp [Region.wanted,hgd]
  rw [if_pos hw]
  obtain ⟨v',w',hr,h2,h3,h4,h5⟩:=run_append_own_at (P:=P) w base t o.type e i z size bytes ht hi hz hsize hby hzs hsz v n xs hown ad m c news hl hnews h1 h63 hbytes hbase
  unfold Oper.wp execOp
  simp only [ho,resolve,invoke,builtin,Sem.run_bind,Sem.run_pure,Result.andThen_ok,List.map_toArray,List.map_cons,List.map_nil,hs,hx,hr]
  exact h v' w' h2 h3 h4 h5
end Go.Proofs.YtjdlnmbfomojdaaGreat
