/-
  Sl, part 14: calls of functions that the model itself answers for.
-/
import Derived.Test.YthmgkggpipnalaaSlNet3
namespace Go.Sl
set_option linter.unusedVariables false
set_option linter.unusedSimpArgs false
def ExtB (P : Program) (f : FuncId) (e : Array Value → Sem Value) : Prop := ∃ fn, P.funcs[f]? = some fn ∧ (fn.name == "runtime.NumGoroutine") = false ∧ fn.body.isNone = true ∧ Extern.findNext fn = none ∧ Extern.find fn = some e
end Go.Sl
