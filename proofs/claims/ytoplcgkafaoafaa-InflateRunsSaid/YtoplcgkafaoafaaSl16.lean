/-
  Sl, part 16: opening an assertion that stands anywhere; contracts that lean on nothing; calls that yield a new row.
-/
import Derived.Test.YtoplcgkafaoafaaSl15
namespace Go.Sl
set_option linter.unusedVariables false
section
variable {C : Ctx} {Q : QT} {E : Env} {L F : List HProp} {ops : Array Oper} {rest : List Oper} {d : Option Nat} {ty : TypeId} {pos : String} {aft : Array Edge}
theorem w_opnR {c : Code} {A : HProp} {ι : Sort _} {K : ι → Prop} {B : ι → List HProp} (hr : Rem L A F) (hA : ∀ h, A C.w0 h → ∃ i, K i ∧ sats C.w0 (B i) h) (k : ∀ i, K i → Wp C c Q E (B i ++ F)) : Wp C c Q E L := w_perm hr.perm (w_opn hA k)
theorem o_opnR {A : HProp} {ι : Sort _} {K : ι → Prop} {B : ι → List HProp} (hr : Rem L A F) (hA : ∀ h, A C.w0 h → ∃ i, K i ∧ sats C.w0 (B i) h) (k : ∀ i, K i → Ops C ops rest Q E (B i ++ F)) : Ops C ops rest Q E L := o_perm hr.perm (o_opn hA k)
end
end Go.Sl
