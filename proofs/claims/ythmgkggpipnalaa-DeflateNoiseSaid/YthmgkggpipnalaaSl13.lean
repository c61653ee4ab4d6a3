/-
  Sl, part 13: data that came in, of any depth.
-/
import Derived.Test.YthmgkggpipnalaaSlOpen
namespace Go.Sl
set_option linter.unusedVariables false
/-- A slice that came in, and all that its elements lead to. -/
def Deep (T : TypeId) (e : Td) (p : Option Addr) (n : Nat) (l : List e.Ty) : HProp := fun w0 h => RdR (Td.ec T e) p n l w0 h ∧ ∀ y ∈ l, e.Holds w0 y
section
variable {C : Ctx} {Q : QT} {E : Env} {L : List HProp} {ops : Array Oper} {rest : List Oper}
end
end Go.Sl
