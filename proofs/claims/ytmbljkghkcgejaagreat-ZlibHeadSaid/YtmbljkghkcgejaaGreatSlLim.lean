/- Walks of functions that the law reaches, and what they lean on; no conditions. -/
import Derived.Test.YtmbljkghkcgejaaGreatSlOpen
set_option linter.unusedVariables false
set_option linter.unusedSimpArgs false
set_option maxRecDepth 100000
namespace Go.Sl
def Td.Lim : (d : Td) → d.Ty → Prop
 | .sl _ e, x => x.cap ≤ 140737488351232 ∧ ∀ y ∈ x.l, e.Lim y
 | .st d, x => d.Lim x
 | .seq a b, x => a.Lim x.1 ∧ b.Lim x.2
 | .arr _ _ e, x => True
 | .int _, _ => True
 | .bool, _ => True
 | .flt _, _ => True
 | .str, _ => True
 | .unit, _ => True
def Td.byb (P : Program) : Td → Bool
 | .sl T e => Nat.ble 1 (P.bytesOf T) && e.byb P
 | .st d => d.byb P
 | .seq a b => a.byb P && b.byb P
 | _ => true
section
variable {H : Type} {enc : TypeId × Value → H} {P : Program} {w : World} {held : Bool}
end
end Go.Sl
