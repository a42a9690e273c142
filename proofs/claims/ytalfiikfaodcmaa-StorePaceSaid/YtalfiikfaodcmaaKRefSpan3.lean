/- RefSpan3 -/
import Derived.Test.YtalfiikfaodcmaaKRefSpan2
import Derived.Test.YtalfiikfaodcmaaKClass
namespace Go.Proofs.Ytalfiikfaodcmaa
open Go.RowKit
theorem first_of_pad {r:SRow} {x:Nat} (hx:x<r.2.length) (hall:∀ y,y<x→pad r y=true) (h:pad r x=false):firstFree r.2=some x:=by
  unfold firstFree
  rw [List.findIdx?_eq_some_iff_getElem]
  unfold pad at h hall
  rw [List.getElem?_eq_getElem hx] at h
  refine ⟨hx,by simpa using h,fun j hj=>?_⟩
  have:=hall j hj
  rw [List.getElem?_eq_getElem (by omega)] at this
  simpa using this
theorem full_of_pad {r:SRow} (hall:∀ y,y<r.2.length→pad r y=true):firstFree r.2=none:=by
  unfold firstFree
  rw [List.findIdx?_eq_none_iff]
  intro b hb
  obtain ⟨j,hj,e⟩:=List.mem_iff_getElem.1 hb
  have:=hall j hj
  unfold pad at this
  rw [List.getElem?_eq_getElem hj,e] at this
  simpa using this
end Go.Proofs.Ytalfiikfaodcmaa
