/- Walks of functions that the law reaches, and what they lean on; no conditions. -/
import Derived.Test.YtmbljkghkcgejaaGreatSlOpen
set_option linter.unusedVariables false
set_option linter.unusedSimpArgs false
set_option maxRecDepth 100000
namespace Go.Sl
def Deep (T : TypeId) (e : Td) (p : Option Addr) (n : Nat) (l : List e.Ty) : HProp := fun w0 h => RdR (Td.ec T e) p n l w0 h ∧ ∀ y ∈ l, e.Holds w0 y
section
variable {C : Ctx} {Q : QT} {E : Env} {L : List HProp} {ops : Array Oper} {rest : List Oper}
end
theorem ints_start {w : World} {T : TypeId} {k : IntKind} {x : Slv Int} (hx : (Td.sl T (.int k)).Holds w x) : RdR (ecI T k) x.p x.l.length x.l w (fun _ => none) := hx.2.1
end Go.Sl
