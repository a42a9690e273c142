/- SepArena -/
import Derived.Test.YtffnjpapggidlaaKMem
import Derived.Test.YtffnjpapggidlaaKSpan5
namespace Go.Proofs.Ytffnjpapggidlaa
open Go.RowKit
set_option linter.unusedVariables false
def ArenaP (b:Nat) (s:ASt):Piece where
  at' w F:=ArenaAt w b s F
  keep h k hd:=h.keep k hd
  lt h:=h.lt
section
variable {w0 w:World} {F0:List Nat} {ps:List Piece} {b:Nat} {s s':ASt}
theorem St.arena (h:St w0 F0 (ArenaP b s::ps) w):AOk s∧s.c.length=32 * s.l.length∧2≤s.l.length∧s.l.length≤128:=by
  obtain ⟨F,h1⟩:=h.head
  have hz:=ArenaAt.size h1
  obtain ⟨sb,g,Fs,hb,hs,hc,hF,hok,-⟩:=h1
  exact ⟨hok,hz⟩
theorem St.aDoes {fn:FuncId} {args:Array Value} {r:Ending} (h:St w0 F0 (ArenaP b s::ps) w) (hc:∀ F,ArenaAt w b s F→Calls Try.prog fn args w (ArenaDoes r b s' F w)) :
    Calls Try.prog fn args w fun e w'=>e=r∧St w0 F0 (ArenaP b s'::ps) w' :=
  h.call (p':=ArenaP b s') fun F h1=>(hc F h1).mono fun e w' ⟨he,a,k⟩=>⟨he,F,a,k,fun i hi=>.inl hi⟩
theorem a_Alloc (h:St w0 F0 (ArenaP b s::ps) w) (k n:Int) :
    Calls Try.prog 23 #[.pointer (some ⟨b,0,none⟩),.int .i64 k,.int .i64 n] w fun e w'=>e=.returned (aAllocV k n s)∧St w0 F0 (ArenaP b (aAllocS k n s)::ps) w':=h.aDoes fun _ h1=>arena_Alloc _ _ _ _ _ _ h1
theorem a_Free (h:St w0 F0 (ArenaP b s::ps) w) (a:Int) :
    Calls Try.prog 19 #[.pointer (some ⟨b,0,none⟩),.int .i64 a] w fun e w'=>e=.returned (.int .i64 (aFreeE a s))∧St w0 F0 (ArenaP b (aFreeS a s)::ps) w':=h.aDoes fun _ h1=>arena_Free _ _ _ _ _ h1
theorem a_Store (h:St w0 F0 (ArenaP b s::ps) w) (a i x:Int) :
    Calls Try.prog 21 #[.pointer (some ⟨b,0,none⟩),.int .i64 a,.int .i64 i,.int .i64 x] w fun e w'=>e=.returned (.int .i64 (aErr a i s))∧St w0 F0 (ArenaP b (aStoreS a i x s)::ps) w':=h.aDoes fun _ h1=>arena_Store _ _ _ _ _ _ _ h1
theorem a_Load (h:St w0 F0 (ArenaP b s::ps) w) (a i:Int) :
    Calls Try.prog 34 #[.pointer (some ⟨b,0,none⟩),.int .i64 a,.int .i64 i] w fun e w'=>e=.returned (loadV s a i)∧St w0 F0 (ArenaP b s::ps) w':=h.ask fun _ h1=>arena_Load _ _ _ _ _ _ h1
theorem a_Kind (h:St w0 F0 (ArenaP b s::ps) w) (a:Int) :
    Calls Try.prog 30 #[.pointer (some ⟨b,0,none⟩),.int .i64 a] w fun e w'=>e=.returned (.int .i64 (aKind s.c a))∧St w0 F0 (ArenaP b s::ps) w':=h.ask fun _ h1=>arena_Kind _ _ _ _ _ h1
theorem a_Len (h:St w0 F0 (ArenaP b s::ps) w) (a:Int) :
    Calls Try.prog 32 #[.pointer (some ⟨b,0,none⟩),.int .i64 a] w fun e w'=>e=.returned (.int .i64 (aLen s.c a))∧St w0 F0 (ArenaP b s::ps) w':=h.ask fun _ h1=>arena_Len _ _ _ _ _ h1
theorem a_Used (h:St w0 F0 (ArenaP b s::ps) w) :
    Calls Try.prog 27 #[.pointer (some ⟨b,0,none⟩)] w fun e w'=>e=.returned (.int .i64 (sWords s.l))∧St w0 F0 (ArenaP b s::ps) w':=h.ask fun _ h1=>arena_Used _ _ _ _ h1
theorem a_Words (h:St w0 F0 (ArenaP b s::ps) w) :
    Calls Try.prog 29 #[.pointer (some ⟨b,0,none⟩)] w fun e w'=>e=.returned (.int .i64 s.c.length)∧w=w':=by
  obtain ⟨F,h1⟩:=h.head; exact arena_Words _ _ _ _ h1
def oV (s:ASt):List Int:=(aObjects s.c).map fun p=>((p:Nat):Int)
theorem a_Objects (h:St w0 F0 (ArenaP b s::ps) w) :
    Calls Try.prog 26 #[.pointer (some ⟨b,0,none⟩)] w fun e w'=>∃ v,e=.returned v∧St w0 F0 (RowP v (oV s)::ArenaP b s::ps) w':=by
  obtain ⟨F,h1⟩:=h.head
  refine (arena_Objects _ _ _ _ h1).mono ?_
  rintro e w' ⟨v,he,ho,hk,hf⟩
  refine ⟨v,he,h.push hk.below ⟨v.ownBlock.toList,⟨?_,rfl⟩,?_⟩⟩
  · have e1:iV (oV s)=natV (aObjects s.c):=by simp [iV,oV,natV]
    have e2:(oV s).length=(aObjects s.c).length:=by simp [oV]
    rw [e1,e2]; exact ho
  · intro i hi; simp at hi; exact hf i hi
theorem a_New {ps:List Piece} (h:St w0 F0 ps w) (n:Nat) (h2:2≤n) (h128:n≤128) :
    Calls Try.prog 15 #[.int .i64 n] w fun e w'=>∃ b,e=.returned (.tuple #[.pointer (some ⟨b,0,none⟩),.int .i64 0])∧St w0 F0 (ArenaP b (aNew n)::ps) w' :=
  (arena_New n h2 h128 w).mono fun e w' ⟨b,F,he,h1,h2,h3⟩=>⟨b,he,h.push h2.below ⟨F,h1,h3⟩⟩
end
end Go.Proofs.Ytffnjpapggidlaa
