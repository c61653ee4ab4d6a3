/-
  Sl, the net, part 3: appends, literals, new memory, calls.
-/
import Derived.Test.YtoplcgkafaoafaaSlNet2
namespace Go.Sl
set_option linter.unusedVariables false
set_option linter.unusedSimpArgs false
section
variable {C : Ctx} {E : Env} {L F G : List HProp} {ops : Array Oper} {d : Option Nat} {ty : TypeId} {pos : String} {aft : Array Edge} {op : Op} {o : Oper} {α : Type} {c : Ec α}
def ptB : Value → Nat | .pointer (some a) => a.block | _ => 0
/-- A call whose result and memory are known. -/
theorem st_callN {f : FuncId} {args : List Operand} {tys : Array TypeId} {vs : List Value} {Pre Post : List HProp} {R : Value → List HProp → Prop} {v0 : Value} (hS : Ctr C.P f vs Pre (Ret R)) (hb : bodyB C.P f = true) (hE : evs E args = some vs) (hL : Rems L Pre F) (hR : ∀ v G, R v G → v = v0 ∧ G.Perm Post) :
    Step C ops ⟨d, .call ⟨.value (.func f), args.toArray, tys⟩, ty, pos, aft, none⟩ E L (fun v L' => v = v0 ∧ L'.Perm (Post ++ F)) :=
  st_call hS hb hE hL fun v G hr => ⟨(hR v G hr).1, (hR v G hr).2.append_right F⟩
end
end Go.Sl
