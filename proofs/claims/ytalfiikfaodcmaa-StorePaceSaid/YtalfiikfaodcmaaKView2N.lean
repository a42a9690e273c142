/- View2N RefSpan Arr8 -/
import Derived.Test.YtalfiikfaodcmaaKView
import Derived.Test.YtalfiikfaodcmaaKSpan5
import Derived.Laws.ResultCell
import Derived.Deep.RegionHeld3
namespace Go.Proofs.Ytalfiikfaodcmaa
open Go.RowKit
set_option linter.unusedVariables false
set_option linter.unusedSimpArgs false
section
variable {w0 w:World} {F0:List Nat} {ps:List Piece} {b ab:Nat} {h:HSt}
end
end Go.Proofs.Ytalfiikfaodcmaa
namespace Go.Proofs.Ytalfiikfaodcmaa
open Go.RowKit
def pad (r:SRow) (k:Nat):Bool:=r.2[k]? == some true
def RCls (w:World) (g cap:Nat) (l:List SRow):Prop :=
  ∃ cur,Blk w g 3 cur∧cur.size=cap∧l.length≤cap∧∀ i (h:i<l.length),cur[i]?=some (.int .i64 (l[i]'h).1)
theorem RCls.keep {w w':World} {g cap:Nat} {l:List SRow} {F:List Nat} (h:RCls w g cap l) (k:Keeps F w w') (hg:g ∉ F):RCls w' g cap l:=by
  obtain ⟨cur,hb,r⟩:=h
  exact ⟨cur,k.blk hb hg,r⟩
theorem RCls.cell {w:World} {g cap:Nat} {l:List SRow} (h:RCls w g cap l) (i:Nat) (hi:i<l.length):w.cell? ⟨g,i,none⟩=some (.int .i64 (l[i]'hi).1)∧w.frozen? ⟨g,i,none⟩=false:=by
  obtain ⟨cur,hb,hs,hl,hc⟩:=h
  exact ⟨(hb.cell _).trans (hc i hi),hb.free _⟩
theorem RCls.lt {w:World} {g cap:Nat} {l:List SRow} (h:RCls w g cap l):g<w.heap.size:=by obtain ⟨cur,hb,_⟩:=h; exact hb.lt
end Go.Proofs.Ytalfiikfaodcmaa
namespace Go.Proofs.Ytalfiikfaodcmaa
open Go.RowKit
end Go.Proofs.Ytalfiikfaodcmaa
