/-
  Sl, part 14: calls of functions that the model itself answers for.
-/
import Derived.Test.YtgpfhkbolhpoiaaSlNet3
namespace Go.Sl
set_option linter.unusedVariables false
set_option linter.unusedSimpArgs false
def ExtB (P : Program) (f : FuncId) (e : Array Value → Sem Value) : Prop := ∃ fn, P.funcs[f]? = some fn ∧ (fn.name == "runtime.NumGoroutine") = false ∧ fn.body.isNone = true ∧ Extern.findNext fn = none ∧ Extern.find fn = some e
theorem v_extern {C : Ctx} {E : Env} {L : List HProp} {ty : TypeId} {f : FuncId} {e : Array Value → Sem Value} {args : List Operand} {tys : Array TypeId} {vs : List Value} {v : Value} (h : ExtB C.P f e) (hE : evs E args = some vs) (hr : ∀ w, (e vs.toArray).run C.P w = .ok v w) :
    OpV C (.call ⟨.value (.func f), args.toArray, tys⟩) ty E L v L := pureV fun d pos aft g a w ha => by
  obtain ⟨fn, h1, h2, h3, h4, h5⟩ := h
  have hargs := ha.evs hE
  simp only [execOp, resolve, hargs, Deferred.ofValue, Act.eval, invoke, Sem.run_bind, Sem.run_pure, Result.andThen_ok, Array.append_empty, Array.empty_append, callFunc, run_program, h1, h2, h3, h4, h5, run_mark, hr]
  simp [hr]
theorem run_floor {P : Program} {w : World} {nm : String} {way : Ieee.Toward} {x : Nat} {s : Bool} {m : Nat} {i : Int} (h : FloatKind.f64.decode x = .number s m i) :
    (Extern.MathFloor.toIntegral nm way #[.float .f64 x]).run P w = .ok (.float .f64 (FloatKind.f64.encode ((Ieee.Datum.number s m i).integral way))) w := by
  have e : Extern.MathFloor.toIntegral nm way #[.float .f64 x] = (match FloatKind.f64.decode x with
    | .nan s t => if FloatKind.f64.format.quiet t = t then pure (.float .f64 x) else do
      let kept ← choose (.extern "math.Floor,Ceil,Trunc,RoundToEven.signallingNaN kept" 2)
      pure (.float .f64 (if kept == 1 then x else FloatKind.f64.encode (.nan s (FloatKind.f64.format.quiet t))))
    | d => pure (.float .f64 (FloatKind.f64.encode (d.integral way)))) := rfl
  rw [e, h]
  rfl
end Go.Sl
