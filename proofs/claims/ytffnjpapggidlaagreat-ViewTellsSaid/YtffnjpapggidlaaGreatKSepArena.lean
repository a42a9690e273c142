/- SepArena PutW -/
import Derived.Test.YtffnjpapggidlaaGreatKMem
import Derived.Test.YtffnjpapggidlaaGreatKSpan5
import Derived.Test.YtffnjpapggidlaaGreatKPureView
import Derived.Test.YtffnjpapggidlaaGreatKPureArena
namespace Go.Proofs.YtffnjpapggidlaaGreat
open Go.RowKit
set_option linter.unusedVariables false
def ArenaP (b:Nat) (s:ASt):Piece where
  at' w F:=ArenaAt w b s F
  keep h k hd:=h.keep k hd
  lt h:=h.lt
section
variable {w0 w:World} {F0:List Nat} {ps:List Piece} {b:Nat} {s s':ASt}
theorem St.arena (h:St w0 F0 (ArenaP b s::ps) w):AOk s∧s.c.length=32 * s.l.length∧2≤s.l.length∧s.l.length≤128:=by
  obtain ⟨F,h1⟩:=h.head
  have hz:=ArenaAt.size h1
  obtain ⟨sb,g,Fs,hb,hs,hc,hF,hok,-⟩:=h1
  exact ⟨hok,hz⟩
theorem St.aDoes {fn:FuncId} {args:Array Value} {r:Ending} (h:St w0 F0 (ArenaP b s::ps) w) (hc:∀ F,ArenaAt w b s F→Calls Tryz.prog fn args w (ArenaDoes r b s' F w)) :
    Calls Tryz.prog fn args w fun e w'=>e=r∧St w0 F0 (ArenaP b s'::ps) w' :=
  h.call (p':=ArenaP b s') fun F h1=>(hc F h1).mono fun e w' ⟨he,a,k⟩=>⟨he,F,a,k,fun i hi=>.inl hi⟩
theorem a_Alloc (h:St w0 F0 (ArenaP b s::ps) w) (k n:Int) :
    Calls Tryz.prog 181 #[.pointer (some ⟨b,0,none⟩),.int .i64 k,.int .i64 n] w fun e w'=>e=.returned (aAllocV k n s)∧St w0 F0 (ArenaP b (aAllocS k n s)::ps) w':=h.aDoes fun _ h1=>arena_Alloc _ _ _ _ _ _ h1
theorem a_Free (h:St w0 F0 (ArenaP b s::ps) w) (a:Int) :
    Calls Tryz.prog 196 #[.pointer (some ⟨b,0,none⟩),.int .i64 a] w fun e w'=>e=.returned (.int .i64 (aFreeE a s))∧St w0 F0 (ArenaP b (aFreeS a s)::ps) w':=h.aDoes fun _ h1=>arena_Free _ _ _ _ _ h1
theorem a_Store (h:St w0 F0 (ArenaP b s::ps) w) (a i x:Int) :
    Calls Tryz.prog 111 #[.pointer (some ⟨b,0,none⟩),.int .i64 a,.int .i64 i,.int .i64 x] w fun e w'=>e=.returned (.int .i64 (aErr a i s))∧St w0 F0 (ArenaP b (aStoreS a i x s)::ps) w':=h.aDoes fun _ h1=>arena_Store _ _ _ _ _ _ _ h1
theorem a_Load (h:St w0 F0 (ArenaP b s::ps) w) (a i:Int) :
    Calls Tryz.prog 129 #[.pointer (some ⟨b,0,none⟩),.int .i64 a,.int .i64 i] w fun e w'=>e=.returned (loadV s a i)∧St w0 F0 (ArenaP b s::ps) w':=h.ask fun _ h1=>arena_Load _ _ _ _ _ _ h1
theorem a_Kind (h:St w0 F0 (ArenaP b s::ps) w) (a:Int) :
    Calls Tryz.prog 43 #[.pointer (some ⟨b,0,none⟩),.int .i64 a] w fun e w'=>e=.returned (.int .i64 (aKind s.c a))∧St w0 F0 (ArenaP b s::ps) w':=h.ask fun _ h1=>arena_Kind _ _ _ _ _ h1
theorem a_Len (h:St w0 F0 (ArenaP b s::ps) w) (a:Int) :
    Calls Tryz.prog 38 #[.pointer (some ⟨b,0,none⟩),.int .i64 a] w fun e w'=>e=.returned (.int .i64 (aLen s.c a))∧St w0 F0 (ArenaP b s::ps) w':=h.ask fun _ h1=>arena_Len _ _ _ _ _ h1
theorem a_Used (h:St w0 F0 (ArenaP b s::ps) w) :
    Calls Tryz.prog 144 #[.pointer (some ⟨b,0,none⟩)] w fun e w'=>e=.returned (.int .i64 (sWords s.l))∧St w0 F0 (ArenaP b s::ps) w':=h.ask fun _ h1=>arena_Used _ _ _ _ h1
theorem a_Words (h:St w0 F0 (ArenaP b s::ps) w) :
    Calls Tryz.prog 127 #[.pointer (some ⟨b,0,none⟩)] w fun e w'=>e=.returned (.int .i64 s.c.length)∧w=w':=by
  obtain ⟨F,h1⟩:=h.head; exact arena_Words _ _ _ _ h1
def oV (s:ASt):List Int:=(aObjects s.c).map fun p=>((p:Nat):Int)
theorem a_Objects (h:St w0 F0 (ArenaP b s::ps) w) :
    Calls Tryz.prog 36 #[.pointer (some ⟨b,0,none⟩)] w fun e w'=>∃ v,e=.returned v∧St w0 F0 (RowP v (oV s)::ArenaP b s::ps) w':=by
  obtain ⟨F,h1⟩:=h.head
  refine (arena_Objects _ _ _ _ h1).mono ?_
  rintro e w' ⟨v,he,ho,hk,hf⟩
  refine ⟨v,he,h.push hk.below ⟨v.ownBlock.toList,⟨?_,rfl⟩,?_⟩⟩
  · have e1:iV (oV s)=natV (aObjects s.c):=by simp [iV,oV,natV]
    have e2:(oV s).length=(aObjects s.c).length:=by simp [oV]
    rw [e1,e2]; exact ho
  · intro i hi; simp at hi; exact hf i hi
theorem a_New {ps:List Piece} (h:St w0 F0 ps w) (n:Nat) (h2:2≤n) (h128:n≤128) :
    Calls Tryz.prog 123 #[.int .i64 n] w fun e w'=>∃ b,e=.returned (.tuple #[.pointer (some ⟨b,0,none⟩),.int .i64 0])∧St w0 F0 (ArenaP b (aNew n)::ps) w' :=
  (arena_New n h2 h128 w).mono fun e w' ⟨b,F,he,h1,h2,h3⟩=>⟨b,he,h.push h2.below ⟨F,h1,h3⟩⟩
end
end Go.Proofs.YtffnjpapggidlaaGreat
/- The words of things behind hPut, hStore. -/
namespace Go.Proofs.YtffnjpapggidlaaGreat
set_option linter.unusedVariables false
set_option linter.unusedSimpArgs false
theorem hStore_far {h : HSt} (k : HOk h) (p i w : Int) {q : Int} (hne : q ≠ p) : aWords (hStore p i w h).a q = aWords h.a q := by rw [store_a]; exact words_store_far k.a p i w hne
theorem hStore_self {h : HSt} (k : HOk h) (p i w : Int) (he : aErr p i h.a = 0) : aWords (hStore p i w h).a p = (aWords h.a p).set i.toNat w := by rw [store_a]; exact words_store_self k.a p i w he
theorem hStore_ph (p i x : Int) (s : HSt) : (hStore p i x s).ph = s.ph := by
  unfold hStore
  split
  · rw [shadeW_ph]
  · rfl
theorem hAlloc_ph (k n : Int) (s : HSt) : (hAlloc k n s).ph = s.ph := by
  unfold hAlloc
  split
  · rfl
  · split <;> rfl
theorem putTo_ph (p : Int) (old l : List Int) (s : HSt) : ∀ n, (hPutTo p old l n s).ph = s.ph
  | 0 => rfl
  | n + 1 => by
    unfold hPutTo
    split
    · exact putTo_ph p old l s n
    · rw [hStore_ph]; exact putTo_ph p old l s n
theorem hPut_ph (p kind : Int) (n : Nat) (l : List Int) (s : HSt) : (hPut p kind n l s).ph = s.ph := by
  unfold hPut; split
  · exact putTo_ph _ _ _ _ _
  · rfl
theorem putTo_far {h : HSt} (k : HOk h) (p : Int) (old : List Int) {l : List Int} (hl : ∀ x ∈ l, Wd x) {q : Int} (hne : q ≠ p) : ∀ n, aWords (hPutTo p old l n h).a q = aWords h.a q
  | 0 => rfl
  | n + 1 => by
    unfold hPutTo
    split
    · exact putTo_far k p old hl hne n
    · rw [hStore_far (k.putTo p old hl n).1 _ _ _ hne]; exact putTo_far k p old hl hne n
theorem putTo_self {h : HSt} (k : HOk h) {p kind : Int} {n : Nat} {l : List Int} (hi : Is h.a p kind n) (hL : l.length = n) (hl : ∀ x ∈ l, Wd x) : ∀ j, j ≤ n → aWords (hPutTo p (aWords h.a p) l j h).a p = l.take j ++ (aWords h.a p).drop j
  | 0, _ => by simp [hPutTo]
  | j + 1, hj => by
    have ih := putTo_self k hi hL hl j (by omega)
    have hlen := hi.len
    have e1 : (aWords h.a p).getD j 0 = (aWords h.a p)[j]'(by omega) := by rw [List.getD_eq_getElem?_getD, List.getElem?_eq_getElem (by omega)]; rfl
    have e2 : l.getD j 0 = l[j]'(by omega) := by rw [List.getD_eq_getElem?_getD, List.getElem?_eq_getElem (by omega)]; rfl
    have t1 : l.take (j + 1) = l.take j ++ [l[j]'(by omega)] := List.take_succ_eq_append_getElem (by omega)
    have t2 : (aWords h.a p).drop j = (aWords h.a p)[j]'(by omega) :: (aWords h.a p).drop (j + 1) := List.drop_eq_getElem_cons (by omega)
    unfold hPutTo
    rw [e1, e2]
    split
    · rename_i he
      rw [ih, t1, t2, he]; simp
    · obtain ⟨ok, hd⟩ := k.putTo p (aWords h.a p) hl j
      rw [hStore_self ok p j _ (by rw [err_of_head (hd p)]; exact hi.err (by omega)), ih, t1, t2, Int.toNat_natCast]
      rw [List.set_append_right _ _ (by rw [List.length_take]; omega)]
      rw [show j - (l.take j).length = 0 by rw [List.length_take]; omega]
      show l.take j ++ (l[j]'(by omega) :: (aWords h.a p).drop (j + 1)) = (l.take j ++ [l[j]'(by omega)]) ++ (aWords h.a p).drop (j + 1)
      rw [List.append_assoc]; rfl
theorem hPut_far {h : HSt} (k : HOk h) (p kind : Int) (n : Nat) {l : List Int} (hl : ∀ x ∈ l, Wd x) {q : Int} (hne : q ≠ p) : aWords (hPut p kind n l h).a q = aWords h.a q := by
  unfold hPut; split
  · exact putTo_far k p _ hl hne n
  · rfl
theorem hPut_self {h : HSt} (k : HOk h) {p kind : Int} {n : Nat} {l : List Int} (hi : Is h.a p kind n) (hL : l.length = n) (hl : ∀ x ∈ l, Wd x) : aWords (hPut p kind n l h).a p = l := by
  unfold hPut
  rw [if_pos hi, putTo_self k hi hL hl n (Nat.le_refl n), List.drop_of_length_le (by rw [hi.len]; exact Nat.le_refl n), List.append_nil, List.take_of_length_le (by omega)]
theorem is_head {s s' : ASt} {p : Int} (h : aHead s'.c p = aHead s.c p) {kind : Int} {n : Nat} : Is s' p kind n ↔ Is s p kind n := by
  unfold Is; rw [kind_of_head h, len_of_head h]
end Go.Proofs.YtffnjpapggidlaaGreat
