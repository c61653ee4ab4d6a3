/- Walks of functions that the law reaches, and what they lean on; no conditions. -/
import Derived.Test.YtmbljkghkcgejaaGreatSl8
set_option linter.unusedVariables false
set_option linter.unusedSimpArgs false
set_option maxRecDepth 100000
namespace Go.Sl
open Go.RowKit (Below)
section
variable {C : Ctx} {Q : QT} {E : Env} {L L' F : List ae} {ops : Array Oper} {rest : List Oper} {d : Nat} {ty : TypeId} {pos : String} {aft : Array Edge} {op : Op} {v : Value}
end
theorem aG {L G M F : List ae} {A : ae} (hr : fy L G M) (hd : Drop M F) (hA : ∀ w0 h, cA w0 G h → A w0 h) : Sub L (A :: F) := (sub hr hd).trans (fold hA)
def ints (k : IntKind) (xs : List Int) : List Value := xs.map (Value.int k)
theorem Bu {k : IntKind} {xs : List Int} {i : Nat} (h : i < xs.length) : (ints k xs)[i]? = some (.int k (xs.getD i 0)) := by simp [ints, h]
theorem ints_set {k : IntKind} {xs : List Int} {i : Nat} {n : Int} : (ints k xs).set i (.int k n) = ints k (xs.set i n) := by simp [ints]
def N3 (xs : List Bool) : List Value := xs.map Value.bool
end Go.Sl
