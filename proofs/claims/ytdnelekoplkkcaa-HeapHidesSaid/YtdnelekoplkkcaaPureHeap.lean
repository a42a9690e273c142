/- A collector, as plain data. -/
import Derived.Test.YtdnelekoplkkcaaPureArena
import Derived.Test.YtdnelekoplkkcaaPlain
namespace Go.Proofs.Ytdnelekoplkkcaa
set_option linter.unusedVariables false

/-- An arena, what colours its places have, what is grey, whether one was refused, the phase, the span that is swept next, how many cycles there were. -/
structure HSt where
  a : ASt
  col : Int → Int
  g : List Int
  ov : Bool
  ph : Int
  sp : Int
  cy : Int
def upd (f : Int → Int) (p v : Int) : Int → Int := fun x => if x = p then v else f x
def aWords (s : ASt) (p : Int) : List Int := (List.range (aLen s.c p).toNat).map fun j => wordOf s.c[p.toNat + 1 + j]?
def isObj (s : ASt) (p : Int) : Bool := (aHead s.c p).isSome
def hColour (h : HSt) (p : Int) : Int := if isObj h.a p then h.col p else 0
def hPush (p : Int) (h : HSt) : HSt := if h.g.length < 8 then { h with g := h.g ++ [p] } else { h with ov := true }
/-- It is Mark, there is an object, and it is white. -/
def hWhite (p : Int) (h : HSt) : Bool := decide (h.ph = 1) && isObj h.a p && decide (h.col p = 0)
def hShade (p : Int) (h : HSt) : HSt := if hWhite p h then hPush p { h with col := upd h.col p 1 } else h
def hShadeW (w : Int) (h : HSt) : HSt := if vIsPtr w then hShade (vAt w) h else h
def hStore (p i w : Int) (h : HSt) : HSt := if aErr p i h.a = 0 then hShadeW w { h with a := aStoreS p i w h.a } else h
def hAlloc (kind n : Int) (h : HSt) : HSt :=
  if aBad kind n then h else match aAlloc kind n h.a with
  | some (p, s') => { h with a := s', col := upd h.col p (if h.ph = 0 then 0 else 2) }
  | none => h
def hShades (l : List Int) (h : HSt) : HSt := l.foldl (fun h p => hShade p h) h
def hShadesW (l : List Int) (h : HSt) : HSt := l.foldl (fun h w => hShadeW w h) h
def hBegin (roots : List Int) (h : HSt) : HSt := if h.ph = 0 then hShades roots { h with col := fun _ => 0, g := [], ov := false, ph := 1 } else h
def hBeginE (h : HSt) : Int := if h.ph = 0 then 0 else 11
/-- The objects' places. -/
def hObjs (s : ASt) : List Int := (aObjects s.c).map fun p => ((p : Nat) : Int)
/-- What is looked at next, and the heap behind that. -/
def hNext (h : HSt) : Option Int × HSt :=
  match h.g.getLast? with
  | some x => (some x, { h with g := h.g.dropLast })
  | none => if h.ov then (match (hObjs h.a).find? fun p => decide (h.col p = 1) with
    | some p => (some p, h)
    | none => (none, { h with ov := false })) else (none, h)
def hBlack (p : Int) (h : HSt) : HSt := { h with col := upd h.col p 2 }
def hScan (p : Int) (h : HSt) : HSt := if isObj h.a p then hBlack p (hShadesW (aWords h.a p) h) else h
/-- A white box with a finaliser. -/
def isLost (h : HSt) (p : Int) : Bool := decide (aKind h.a.c p = 5) && decide (h.col p = 0) && decide (1 < (aWords h.a p).length) && decide ((aWords h.a p).getD 1 0 ≠ 0)
def hLost (h : HSt) : Option Int := (hObjs h.a).find? (isLost h)
structure Gn where
  kind : Int
  at' : Int
  words : List Int
  kept : Bool
deriving DecidableEq
def gnOf (h : HSt) (kept : Bool) (p : Int) : Gn := ⟨aKind h.a.c p, p, aWords h.a p, kept⟩
def hMark (h : HSt) : List Gn × HSt :=
  match hNext h with
  | (some p, h1) => ([], hScan p h1)
  | (none, h1) => match hLost h1 with
    | some p => ([gnOf h1 true p], hShade p { h1 with a := aStoreS p 1 0 h1.a })
    | none => ([], { h1 with ph := 2, sp := 0 })
/-- Those of a span that are white. -/
def hGone (h : HSt) : List Int := (hObjs h.a).filter fun p => decide (p / 32 = h.sp) && decide (h.col p = 0)
def hSweep (h : HSt) : List Gn × HSt :=
  let h1 := { h with a := (hGone h).foldl (fun s p => aFreeS p s) h.a, sp := h.sp + 1 }
  ((hGone h).map (gnOf h false), if h.sp + 1 ≥ h.a.l.length then { h1 with ph := 0, cy := Go.RowKit.wrap64 (h.cy + 1) } else h1)
def hStep (h : HSt) : List Gn × HSt := if h.ph = 1 then hMark h else if h.ph = 2 then hSweep h else ([], h)
def hNew (n : Nat) : HSt := ⟨aNew n, fun _ => 0, [], false, 0, 0, 0⟩

/-- What is so of each heap. -/
structure HOk (h : HSt) : Prop where
  a : AOk h.a
  wd : ∀ (p : Nat) w, h.a.c[p]? = some (.word w) → Wd w
  gl : h.g.length ≤ 8
  gin : ∀ x ∈ h.g, isObj h.a x = true
  gnil : h.ph ≠ 1 → h.g = []
  cols : ∀ x, h.col x = 0 ∨ h.col x = 1 ∨ h.col x = 2
  far : ∀ x : Int, ¬ (0 ≤ x ∧ x < (h.a.c.length : Int)) → h.col x = 0
  phs : h.ph = 0 ∨ h.ph = 1 ∨ h.ph = 2
  sp0 : 0 ≤ h.sp
  spn : h.ph = 2 → h.sp < h.a.l.length
  spl : h.sp ≤ h.a.l.length
  len : 2 ≤ h.a.l.length ∧ h.a.l.length ≤ 128
end Go.Proofs.Ytdnelekoplkkcaa
