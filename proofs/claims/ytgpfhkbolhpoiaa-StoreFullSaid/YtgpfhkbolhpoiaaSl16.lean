/-
  Sl, part 16: opening an assertion that stands anywhere; contracts that lean on nothing; calls that yield a new row.
-/
import Derived.Test.YtgpfhkbolhpoiaaSl15
namespace Go.Sl
set_option linter.unusedVariables false
section
variable {C : Ctx} {Q : QT} {E : Env} {L F : List HProp} {ops : Array Oper} {rest : List Oper} {d : Option Nat} {ty : TypeId} {pos : String} {aft : Array Edge}
theorem w_opnR {c : Code} {A : HProp} {ι : Sort _} {K : ι → Prop} {B : ι → List HProp} (hr : Rem L A F) (hA : ∀ h, A C.w0 h → ∃ i, K i ∧ sats C.w0 (B i) h) (k : ∀ i, K i → Wp C c Q E (B i ++ F)) : Wp C c Q E L := w_perm hr.perm (w_opn hA k)
theorem o_opnR {A : HProp} {ι : Sort _} {K : ι → Prop} {B : ι → List HProp} (hr : Rem L A F) (hA : ∀ h, A C.w0 h → ∃ i, K i ∧ sats C.w0 (B i) h) (k : ∀ i, K i → Ops C ops rest Q E (B i ++ F)) : Ops C ops rest Q E L := o_perm hr.perm (o_opn hA k)
theorem Ctr.drop0 {P : Program} {f : FuncId} {args : List Value} {Pre G0 : List HProp} {A : HProp} {v0 : Value} (hA : ∀ w0, A w0 (fun _ => none)) (h : Ctr P f args (Pre ++ [A]) (Ret fun v G => v = v0 ∧ G = G0 ++ [A])) : Ctr P f args Pre (Ret fun v G => v = v0 ∧ G = G0) := fun w0 F w hi => by
  have hi2 : Inv w0 ((Pre ++ [A]) ++ F) w := (hi.add0 (hA w0)).perm (by rw [List.append_assoc]; exact List.perm_middle.symm)
  refine (h w0 F w hi2).mono ?_
  rintro e w' ⟨G, h1, v, rfl, rfl, rfl⟩
  refine ⟨G0, ?_, v, rfl, rfl, rfl⟩
  rw [List.append_assoc] at h1
  exact (h1.perm List.perm_middle).tail
theorem st_callSl {α : Type} {c : Ec α} {n : Nat} {l : List α} {f : FuncId} {args : List Operand} {tys : Array TypeId} {vs : List Value} {Pre Post : List HProp} (hS : Ctr C.P f vs Pre (Ret fun v G => ∃ p c', v = .slice p n c' ∧ G = Row c p n c' l :: Post)) (hb : bodyB C.P f = true) (hE : evs E args = some vs) (hL : Rems L Pre F) :
    Step C ops ⟨d, .call ⟨.value (.func f), args.toArray, tys⟩, ty, pos, aft, none⟩ E L (fun v L' => v = .slice (slP v) n (slC v) ∧ True ∧ L'.Perm ((Row c (slP v) n (slC v) l :: Post) ++ F)) :=
  st_call hS hb hE hL fun v G ⟨p, c', e1, e2⟩ => by subst e1; subst e2; exact ⟨rfl, trivial, .refl _⟩
end
end Go.Sl
