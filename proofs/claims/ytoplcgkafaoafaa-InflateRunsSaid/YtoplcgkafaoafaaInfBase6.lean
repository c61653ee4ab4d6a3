/-
  All bits turned; strings that differ not; bytes of numbers.
-/
import Derived.Test.YtoplcgkafaoafaaM38
namespace Go.BitP
end Go.BitP
namespace Go.Sl
set_option linter.unusedVariables false
section
variable {C : Ctx} {E : Env} {L : List HProp} {ty : TypeId}
end
end Go.Sl
