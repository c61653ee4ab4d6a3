/-
  Sl, part 10: floats.
-/
import Derived.Test.YthmgkggpipnalaaSl9
namespace Go.Sl
set_option linter.unusedVariables false
set_option linter.unusedSimpArgs false
section
variable {C : Ctx} {Q : QT} {E : Env} {L L' F : List HProp} {ty : TypeId} {v : Value} {x y : Operand} {t t' : TypeId} {k : FloatKind} {a b r : Nat}
end
end Go.Sl
