/-
  Sl, the net, part 3: appends, literals, new memory, calls.
-/
import Derived.Test.YtmclopghpnndnaaSlNet2
namespace Go.Sl
set_option linter.unusedVariables false
set_option linter.unusedSimpArgs false
section
variable {C : Ctx} {E : Env} {L F G : List HProp} {ops : Array Oper} {d : Option Nat} {ty : TypeId} {pos : String} {aft : Array Edge} {op : Op} {o : Oper} {α : Type} {c : Ec α}
theorem st_appN {n : Nat} {l : List α} (h : OpX C op ty E L (fun v L' => ∃ p' c', v = .slice p' n c' ∧ L' = Row c p' n c' l :: F)) (hF : F.Perm G) :
    Step C ops ⟨d, op, ty, pos, aft, none⟩ E L (fun v L' => v = .slice (slP v) n (slC v) ∧ True ∧ L'.Perm ([Row c (slP v) n (slC v) l] ++ G)) :=
  st_x fun d pos aft g a w K Q ha hi hK => h d pos aft g a w K Q ha hi fun v L' w' ⟨p, c', e1, e2⟩ hi' => hK v L' w' (by subst e1; subst e2; exact ⟨rfl, trivial, List.Perm.cons _ hF⟩) hi'
def ptB : Value → Nat | .pointer (some a) => a.block | _ => 0
theorem st_newN {n m : Nat} {l : List α} (h : OpX C op ty E L (fun v L' => ∃ b, v = .slice (some ⟨b, 0, none⟩) n m ∧ L' = Row c (some ⟨b, 0, none⟩) n m l :: L)) :
    Step C ops ⟨d, op, ty, pos, aft, none⟩ E L (fun v L' => v = .slice (some ⟨blk' (slP v), 0, none⟩) n m ∧ True ∧ L'.Perm ([Row c (some ⟨blk' (slP v), 0, none⟩) n m l] ++ L)) :=
  st_x fun d pos aft g a w K Q ha hi hK => h d pos aft g a w K Q ha hi fun v L' w' ⟨b, e1, e2⟩ hi' => hK v L' w' (by subst e1; subst e2; exact ⟨rfl, trivial, List.Perm.refl _⟩) hi'
/-- A call whose result and memory are known. -/
theorem st_callN {f : FuncId} {args : List Operand} {tys : Array TypeId} {vs : List Value} {Pre Post : List HProp} {R : Value → List HProp → Prop} {v0 : Value} (hS : Ctr C.P f vs Pre (Ret R)) (hb : bodyB C.P f = true) (hE : evs E args = some vs) (hL : Rems L Pre F) (hR : ∀ v G, R v G → v = v0 ∧ G.Perm Post) :
    Step C ops ⟨d, .call ⟨.value (.func f), args.toArray, tys⟩, ty, pos, aft, none⟩ E L (fun v L' => v = v0 ∧ L'.Perm (Post ++ F)) :=
  st_call hS hb hE hL fun v G hr => ⟨(hR v G hr).1, (hR v G hr).2.append_right F⟩
end
end Go.Sl
