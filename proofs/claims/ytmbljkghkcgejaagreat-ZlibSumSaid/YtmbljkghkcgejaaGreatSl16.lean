/- Walks of functions that the law reaches, and what they lean on; no conditions. -/
import Derived.Test.YtmbljkghkcgejaaGreatSl15
set_option linter.unusedVariables false
set_option linter.unusedSimpArgs false
set_option maxRecDepth 100000
namespace Go.Sl
section
variable {C : Ctx} {Q : QT} {E : Env} {L F : List HProp} {ops : Array Oper} {rest : List Oper} {d : Option Nat} {ty : TypeId} {pos : String} {aft : Array Edge}
theorem w_opnR {c : Code} {A : HProp} {ι : Sort _} {K : ι → Prop} {B : ι → List HProp} (hr : Rem L A F) (hA : ∀ h, A C.w0 h → ∃ i, K i ∧ sats C.w0 (B i) h) (k : ∀ i, K i → Wp C c Q E (B i ++ F)) : Wp C c Q E L := w_perm hr.perm (w_opn hA k)
theorem o_opnR {A : HProp} {ι : Sort _} {K : ι → Prop} {B : ι → List HProp} (hr : Rem L A F) (hA : ∀ h, A C.w0 h → ∃ i, K i ∧ sats C.w0 (B i) h) (k : ∀ i, K i → Ops C ops rest Q E (B i ++ F)) : Ops C ops rest Q E L := o_perm hr.perm (o_opn hA k)
theorem st_callSl {α : Type} {c : Ec α} {n : Nat} {l : List α} {f : FuncId} {args : List Operand} {tys : Array TypeId} {vs : List Value} {Pre Post : List HProp} (hS : Ctr C.P f vs Pre (Ret fun v G => ∃ p c', v = .slice p n c' ∧ G = Row c p n c' l :: Post)) (hb : bodyB C.P f = true) (hE : evs E args = some vs) (hL : Rems L Pre F) :
  Step C ops ⟨d, .call ⟨.value (.func f), args.toArray, tys⟩, ty, pos, aft, none⟩ E L (fun v L' => v = .slice (slP v) n (slC v) ∧ True ∧ L'.Perm ((Row c (slP v) n (slC v) l :: Post) ++ F)) :=
 st_call hS hb hE hL fun v G ⟨p, c', e1, e2⟩ => by subst e1; subst e2; exact ⟨rfl, trivial, .refl _⟩
end
end Go.Sl
