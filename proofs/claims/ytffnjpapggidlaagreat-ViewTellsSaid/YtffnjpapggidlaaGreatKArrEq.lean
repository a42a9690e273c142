/- ArrEq -/
import Derived.Test.YtffnjpapggidlaaGreatKEv2
namespace Go.Proofs.YtffnjpapggidlaaGreat
open Go.RowKit
set_option linter.unusedVariables false
set_option linter.unusedSimpArgs false
def eqL:List Int→List Int→Bool
  | a::xs,b::ys=>(a == b) && eqL xs ys
  | _,_=>true
theorem equalIn_ints {P:Program} {t e:TypeId} {len:Nat} (ht:P.underlying t=some (.array len e)) (he:P.underlying e=some (.int .i64)) (hs:(P.info? e).map (·.size)=some 1) (d:Nat) (xs ys:List Int) (ha:xs.length=len) (hb:ys.length=len) (w:World) :
    (Op.equalIn (d+2) t (.agg (xs.map (Value.int .i64)).toArray) (.agg (ys.map (Value.int .i64)).toArray)).run P w=.ok (eqL xs ys) w:=by
  cases hinf:P.info? e with
  | none=>rw [hinf] at hs; simp at hs
  | some inf =>
    rw [hinf] at hs
    simp only [Option.map_some,Option.some.injEq] at hs
    have hsz:(sizeOf e).run P w=.ok 1 w:=by
      simp only [sizeOf,typeInfo,program,Sem.run_bind,Sem.run,hinf,bind,pure,Sem.bind,hs,Result.andThen]
    rw [Op.equalIn]
    simp only [Sem.run_bind,run_underlying ht,Result.andThen_ok,hsz]
    rw [Std.Legacy.Range.forIn_eq_forIn_range']
    simp only [Std.Legacy.Range.size,Nat.sub_zero,Nat.add_sub_cancel,Nat.div_one]
    let F:Nat→Option Bool×Unit→Sem (ForInStep (Option Bool×Unit)):=fun i s=>do
      let a ← part e (List.map (Value.int .i64) xs).toArray (i * 1)
      let b ← part e (List.map (Value.int .i64) ys).toArray (i * 1)
      let c ← Op.equalIn (d+1) e a b
      if (!c)=true then pure (ForInStep.done (some false,())) else pure (ForInStep.yield (none,()))
    have key:∀ (m i:Nat),i+m=len→Sem.run P (forIn (List.range' i m 1) ((none,()):Option Bool×Unit) F) w=.ok (if eqL (xs.drop i) (ys.drop i)=true then (none,()) else (some false,())) w:=by
      intro m
      induction m with
      | zero =>
        intro i hi
        rw [List.drop_eq_nil_of_le (by omega),List.drop_eq_nil_of_le (by omega)]
        simp [eqL]
      | succ m ih =>
        intro i hi
        have hx:(List.map (Value.int .i64) xs).toArray[i * 1]?=some (.int .i64 (xs[i]'(by omega))):=by simp [show i<xs.length by omega]
        have hy:(List.map (Value.int .i64) ys).toArray[i * 1]?=some (.int .i64 (ys[i]'(by omega))):=by simp [show i<ys.length by omega]
        have h1:Sem.run P (F i (none,())) w=.ok (if (xs[i]'(by omega) == ys[i]'(by omega))=true then ForInStep.yield (none,()) else ForInStep.done (some false,())) w:=by
          show Sem.run P (do
            let a ← part e (List.map (Value.int .i64) xs).toArray (i * 1)
            let b ← part e (List.map (Value.int .i64) ys).toArray (i * 1)
            let c ← Op.equalIn (d+1) e a b
            if (!c)=true then pure (ForInStep.done (some false,())) else pure (ForInStep.yield (none,()))) w=_
          simp only [Sem.run_bind,part_int he hx,part_int he hy,Result.andThen_ok,run_equalIn_int w d e .i64 .i64 _ _ he]
          cases (xs[i]'(by omega) == ys[i]'(by omega)) <;> rfl
        rw [List.range'_succ,List.forIn_cons,Sem.run_bind,h1]
        simp only [Result.andThen_ok]
        rw [List.drop_eq_getElem_cons (show i<xs.length by omega),List.drop_eq_getElem_cons (show i<ys.length by omega)]
        simp only [eqL]
        by_cases hc:(xs[i]'(by omega) == ys[i]'(by omega))=true
        · simp only [hc,if_true,Bool.true_and]
          exact ih (i+1) (by omega)
        · have hc2:(xs[i]'(by omega) == ys[i]'(by omega))=false:=by simpa using hc
          simp only [hc2,Bool.false_and,Bool.false_eq_true,if_false]
          rfl
    have h0:=key len 0 (by omega)
    change ((Sem.run P (forIn (List.range' 0 len 1) ((none,()):Option Bool×Unit) F) w).andThen _)=_
    rw [h0]
    simp only [List.drop_zero,Result.andThen_ok]
    cases eqL xs ys <;> rfl
section
variable {P:Program} {w:World} {d:Nat} {xs ys:Array Value} {f:Field} {fs:List Field} {r s:Bool}
theorem part_ints {t e:TypeId} {len off:Nat} {L:List Int} (hu:P.underlying t=some (.array len e)) (hs:(P.info? t).map (·.size)=some L.length) (hx:xs.extract off (off+L.length)=(L.map (Value.int .i64)).toArray):(part t xs off).run P w=.ok (.agg (L.map (Value.int .i64)).toArray) w:=by
  cases hinf:P.info? t with
  | none=>rw [hinf] at hs; simp at hs
  | some inf =>
    rw [hinf] at hs
    simp only [Option.map_some,Option.some.injEq] at hs
    have hagg:(isAgg t).run P w=.ok true w:=by
      simp only [isAgg,underlying,program,Sem.run_bind,Sem.run,hu,bind,pure,Sem.bind,Result.andThen]
    have hsz:(sizeOf t).run P w=.ok L.length w:=by
      simp only [sizeOf,typeInfo,program,Sem.run_bind,Sem.run,hinf,bind,pure,Sem.bind,hs,Result.andThen]
    unfold part
    rw [Sem.run_bind,hagg]
    simp only [Result.andThen,if_true]
    rw [Sem.run_bind,hsz]
    simp only [Result.andThen,hx]
    rfl
theorem eqf_ints {e : TypeId} {len : Nat} (L M : List Int) (hn : (f.name == "_") = false) (hu : P.underlying f.type = some (.array len e)) (he : P.underlying e = some (.int .i64)) (hs : (P.info? e).map (·.size) = some 1) (hz : (P.info? f.type).map (·.size) = some len) (hL : L.length = len) (hM : M.length = len)
    (hx:xs.extract f.offset (f.offset+L.length)=(L.map (Value.int .i64)).toArray) (hy:ys.extract f.offset (f.offset+M.length)=(M.map (Value.int .i64)).toArray) (hr:(Op.eqFields (d+2) xs ys fs).run P w=.ok s w):(Op.eqFields (d+2) xs ys (f::fs)).run P w=.ok (eqL L M && s) w :=
  eqf_gen hn (part_ints hu (by rw [hL]; exact hz) hx) (part_ints hu (by rw [hM]; exact hz) hy) (equalIn_ints hu he hs d L M hL hM w) hr
end
end Go.Proofs.YtffnjpapggidlaaGreat
