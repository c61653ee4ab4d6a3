/- Walks of functions that the law reaches, and what they lean on; no conditions. -/
import Derived.Test.YtmbljkghkcgejaaGreatSl15
set_option linter.unusedVariables false
set_option linter.unusedSimpArgs false
set_option maxRecDepth 100000
namespace Go.Sl
section
variable {C : Ctx} {Q : QT} {E : Env} {L F : List ae} {ops : Array Oper} {rest : List Oper} {d : Option Nat} {ty : TypeId} {pos : String} {aft : Array Edge}
theorem gg {c : Code} {A : ae} {ι : Sort _} {K : ι → Prop} {B : ι → List ae} (hr : iK L A F) (hA : ∀ h, A C.w0 h → ∃ i, K i ∧ cA C.w0 (B i) h) (k : ∀ i, K i → Wp C c Q E (B i ++ F)) : Wp C c Q E L := Kr hr.perm (eK hA k)
theorem CB {A : ae} {ι : Sort _} {K : ι → Prop} {B : ι → List ae} (hr : iK L A F) (hA : ∀ h, A C.w0 h → ∃ i, K i ∧ cA C.w0 (B i) h) (k : ∀ i, K i → dk C ops rest Q E (B i ++ F)) : dk C ops rest Q E L := ta hr.perm (GC hA k)
theorem vb {α : Type} {c : Ec α} {n : Nat} {l : List α} {f : FuncId} {args : List Operand} {tys : Array TypeId} {vs : List Value} {Pre Post : List ae} (hS : aD C.P f vs Pre (aK fun v G => ∃ p c', v = .slice p n c' ∧ G = Row c p n c' l :: Post)) (hb : aC C.P f = true) (hE : iB E args = some vs) (hL : fy L Pre F) :
  Step C ops ⟨d, .call ⟨.value (.func f), args.toArray, tys⟩, ty, pos, aft, none⟩ E L (fun v L' => v = .slice (bY v) n (fp v) ∧ True ∧ L'.Perm ((Row c (bY v) n (fp v) l :: Post) ++ F)) :=
 tP hS hb hE hL fun v G ⟨p, c', e1, e2⟩ => by subst e1; subst e2; exact ⟨rfl, trivial, .refl _⟩
end
end Go.Sl
