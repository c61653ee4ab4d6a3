/- Walks of functions that the law reaches, and what they lean on; no conditions. -/
import Derived.Test.YtmbljkghkcgejaaGreatSl9
set_option linter.unusedVariables false
set_option linter.unusedSimpArgs false
set_option maxRecDepth 100000
namespace Go.Sl
section
variable {C : Ctx} {Q : QT} {E : Env} {L L' F : List ae} {ty : TypeId} {v : Value} {x y : Operand} {t t' : TypeId} {k : FloatKind} {a b r : Nat}
end
end Go.Sl
