/- Record Record2 -/
import Derived.Test.YtinagphkkegmnaaKRowOf
import Derived.Test.YtinagphkkegmnaaKPure10
import Derived.Lib.OthersKept
import Derived.Lib.AppendStr
import Derived.WalkSmall
namespace Go.Proofs.Ytinagphkkegmnaa
open Go.RowKit
theorem kind_cases (k:Int):k=1 ∨ k=3 ∨ k=4 ∨ k=5 ∨ k=6 ∨ ¬ (k=1 ∨ (3≤k∧k≤6)):=by omega
theorem iter_belowR (w:World) (s:ByteArray) (p:Nat):Below w.heap.size w (w.iter s p):=(Below.refl _ _).alloc (Nat.le_refl _) _
theorem own_mono {w:World} {B B' e n:Nat} {v:Value} {xs:List Value} (h:w.ownsRow B e 1 v n xs) (hB:B'≤B):w.ownsRow B' e 1 v n xs :=
  ⟨h.1,h.2.imp id fun ⟨g,cap,cur,a,b,c⟩=>⟨g,cap,cur,a,Nat.le_trans hB b,c⟩⟩
theorem conv_runeR (c:Nat) (h:c<128) (w:World):(convert 21 9 (.int .i32 c)).run Try.prog w=.ok (.string (bs [UInt8.ofNat c])) w:=by
  rw [run_convert_int_string w _ _ _ _ (by kernel_rfl) Try.underlying9]
  have hv:Utf8.valid (c:Int)=true:=by unfold Utf8.valid; simp; omega
  simp only [Utf8.encode,hv,if_true,Int.toNat_natCast,h]
  rfl
theorem info_str:(Try.prog.info? 9).map (fun i=>(i.zero,i.size,i.bytes))=some (some (.string ⟨#[]⟩),1,16):=by kernel_rfl
def GivesStrs (l:List ByteArray) (w:World) (e:Ending) (w':World):Prop :=
  ∃ v,e=.returned v∧Below w.heap.size w w'∧w'.ownsRow w.heap.size 9 1 v l.length (l.map .string)
end Go.Proofs.Ytinagphkkegmnaa
namespace Go.Proofs.Ytinagphkkegmnaa
open Go.RowKit
theorem names_len (k:Int):((rNames k).length:Int)=if k=1 then 9 else if k=3 then 7 else if k=4 then 10 else if k=5 then 2 else if k=6 then 2 else 0:=by
  obtain rfl | rfl | rfl | rfl | rfl | h:=kind_cases k
  · decide +kernel
  · decide +kernel
  · decide +kernel
  · decide +kernel
  · decide +kernel
  · have:rNames k=[]:=by unfold rNames; rw [rText_none h]; rfl
    rw [this]; repeat (rw [if_neg (by omega)])
    rfl
theorem need_eq (k n:Int) (h:k≠2):rNeed k n=(rNames k).length∧rKnown k n=decide (0<(rNames k).length):=by
  have e:decide (0<(rNames k).length)=decide (0<((rNames k).length:Int)):=by rw [decide_eq_decide]; omega
  rw [e,names_len]
  unfold rNeed rKnown
  rw [if_neg h,if_neg h]
  refine ⟨rfl,?_⟩
  rw [decide_eq_decide]
  repeat' split
  all_goals omega
theorem need_buf (n:Int):(n<0→rNeed 2 n=0∧rKnown 2 n=false)∧(3<n→rNeed 2 n=0∧rKnown 2 n=false)∧(0≤n→n≤3→rNeed 2 n=n∧rKnown 2 n=true):=by
  unfold rNeed rKnown
  refine ⟨fun h=>?_,fun h=>?_,fun h h'=>?_⟩
  · exact ⟨by simp [h],by simp; omega⟩
  · exact ⟨by simp [h],by simp; omega⟩
  · exact ⟨by simp; omega,by simp; omega⟩
theorem own_new (w:World) (c:Array Value) (e:Nat) (hc:c.size≤1000):(w.alloc (.cells c e)).ownsRow w.heap.size e 1 (.slice (some ⟨w.heap.size,0,none⟩) c.size c.size) c.size c.toList :=
  ⟨by simp,.inr ⟨w.heap.size,c.size,c,rfl,Nat.le_refl _,by show (w.heap.push _)[w.heap.size]?=_; simp,Nat.le_refl _,by unfold maxLen; omega,by simp,by simp [List.take_of_length_le]⟩⟩
def refNeedPost (k n:Int) (w:World) (e:Ending) (w':World):Prop:=e=.returned (.tuple #[.int .i64 (rNeed k n),.bool (rKnown k n)])∧Below w.heap.size w w'
theorem own_val {w:World} {B e:Nat} {v:Value} {n:Nat} {xs:List Value} (h:w.ownsRow B e 1 v n xs):∃ p cap,v=.slice p n cap∧n≤maxLen:=by
  obtain ⟨_,⟨rfl,rfl⟩ | ⟨g,cap,cur,rfl,_,_,hn,hm,_⟩⟩:=h
  · exact ⟨_,_,rfl,by simp⟩
  · exact ⟨_,_,rfl,by omega⟩
end Go.Proofs.Ytinagphkkegmnaa
