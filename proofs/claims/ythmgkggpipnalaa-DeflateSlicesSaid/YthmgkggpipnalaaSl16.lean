/-
  Sl, part 16: opening an assertion that stands anywhere; contracts that lean on nothing; calls that yield a new row.
-/
import Derived.Test.YthmgkggpipnalaaSl15
namespace Go.Sl
set_option linter.unusedVariables false
section
variable {C : Ctx} {Q : QT} {E : Env} {L F : List HProp} {ops : Array Oper} {rest : List Oper} {d : Option Nat} {ty : TypeId} {pos : String} {aft : Array Edge}
theorem st_callSl {α : Type} {c : Ec α} {n : Nat} {l : List α} {f : FuncId} {args : List Operand} {tys : Array TypeId} {vs : List Value} {Pre Post : List HProp} (hS : Ctr C.P f vs Pre (Ret fun v G => ∃ p c', v = .slice p n c' ∧ G = Row c p n c' l :: Post)) (hb : bodyB C.P f = true) (hE : evs E args = some vs) (hL : Rems L Pre F) :
    Step C ops ⟨d, .call ⟨.value (.func f), args.toArray, tys⟩, ty, pos, aft, none⟩ E L (fun v L' => v = .slice (slP v) n (slC v) ∧ True ∧ L'.Perm ((Row c (slP v) n (slC v) l :: Post) ++ F)) :=
  st_call hS hb hE hL fun v G ⟨p, c', e1, e2⟩ => by subst e1; subst e2; exact ⟨rfl, trivial, .refl _⟩
end
end Go.Sl
