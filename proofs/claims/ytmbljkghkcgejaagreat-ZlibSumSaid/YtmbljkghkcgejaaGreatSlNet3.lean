/- Walks of functions that the law reaches, and what they lean on; no conditions. -/
import Derived.Test.YtmbljkghkcgejaaGreatSlNet2
set_option linter.unusedVariables false
set_option linter.unusedSimpArgs false
set_option maxRecDepth 100000
namespace Go.Sl
section
variable {C : Ctx} {E : Env} {L F G : List HProp} {ops : Array Oper} {d : Option Nat} {ty : TypeId} {pos : String} {aft : Array Edge} {op : Op} {o : Oper} {α : Type} {c : Ec α}
theorem st_appN {n : Nat} {l : List α} (h : OpX C op ty E L (fun v L' => ∃ p' c', v = .slice p' n c' ∧ L' = Row c p' n c' l :: F)) (hF : F.Perm G) :
  Step C ops ⟨d, op, ty, pos, aft, none⟩ E L (fun v L' => v = .slice (slP v) n (slC v) ∧ True ∧ L'.Perm ([Row c (slP v) n (slC v) l] ++ G)) :=
 st_x fun d pos aft g a w K Q ha hi hK => h d pos aft g a w K Q ha hi fun v L' w' ⟨p, c', e1, e2⟩ hi' => hK v L' w' (by subst e1; subst e2; exact ⟨rfl, trivial, List.Perm.cons _ hF⟩) hi'
def ptB : Value → Nat | .pointer (some a) => a.block | _ => 0
theorem st_newN {n m : Nat} {l : List α} (h : OpX C op ty E L (fun v L' => ∃ b, v = .slice (some ⟨b, 0, none⟩) n m ∧ L' = Row c (some ⟨b, 0, none⟩) n m l :: L)) :
  Step C ops ⟨d, op, ty, pos, aft, none⟩ E L (fun v L' => v = .slice (some ⟨blk' (slP v), 0, none⟩) n m ∧ True ∧ L'.Perm ([Row c (some ⟨blk' (slP v), 0, none⟩) n m l] ++ L)) :=
 st_x fun d pos aft g a w K Q ha hi hK => h d pos aft g a w K Q ha hi fun v L' w' ⟨b, e1, e2⟩ hi' => hK v L' w' (by subst e1; subst e2; exact ⟨rfl, trivial, List.Perm.refl _⟩) hi'
theorem st_allocN {t : TypeId} {cs : List Value} (h : OpX C op ty E L (fun v L' => ∃ b, v = .pointer (some ⟨b, 0, none⟩) ∧ L' = Cel b t cs :: L)) :
  Step C ops ⟨d, op, ty, pos, aft, none⟩ E L (fun v L' => v = .pointer (some ⟨ptB v, 0, none⟩) ∧ True ∧ L'.Perm ([Cel (ptB v) t cs] ++ L)) :=
 st_x fun d pos aft g a w K Q ha hi hK => h d pos aft g a w K Q ha hi fun v L' w' ⟨b, e1, e2⟩ hi' => hK v L' w' (by subst e1; subst e2; exact ⟨rfl, trivial, List.Perm.refl _⟩) hi'
theorem x_boxN {t : TypeId} {x : Operand} {u : Value} {cs : List Value} (hx : evalE E x = some u) (hc : u.cells.toList = cs) : OpX C (.box t x) ty E L (fun v L' => ∃ b, v = .pointer (some ⟨b, 0, none⟩) ∧ L' = Cel b t cs :: L) := by
 subst hc; exact x_box hx
theorem st_callN {f : FuncId} {args : List Operand} {tys : Array TypeId} {vs : List Value} {Pre Post : List HProp} {R : Value → List HProp → Prop} {v0 : Value} (hS : Ctr C.P f vs Pre (Ret R)) (hb : bodyB C.P f = true) (hE : evs E args = some vs) (hL : Rems L Pre F) (hR : ∀ v G, R v G → v = v0 ∧ G.Perm Post) :
  Step C ops ⟨d, .call ⟨.value (.func f), args.toArray, tys⟩, ty, pos, aft, none⟩ E L (fun v L' => v = v0 ∧ L'.Perm (Post ++ F)) :=
 st_call hS hb hE hL fun v G hr => ⟨(hR v G hr).1, (hR v G hr).2.append_right F⟩
theorem r_makeNX {x y : Operand} {t by_ : Nat} {k1 k2 : IntKind} {i1 i2 : Int} {zs : List Value} (n m : Nat) (c : Ec α) (e1 : i1 = (n : Int)) (e2 : i2 = (m : Int)) (ht : sliceB C.P t = some (c.T, c.sz, by_)) (hz : zeroB C.P c.T = some zs) (hze : zs = c.e c.d) (hsz : Nat.ble 1 c.sz = true)
  (hx : evalE E x = some (.int k1 i1)) (hy : evalE E y = some (.int k2 i2)) (hnc : n ≤ m) (hb : m * by_ ≤ 281474976710656) (hby : Nat.ble 1 by_ = true) :
  OpX C (.makeSlice t x y) ty E L (fun v L' => ∃ b, v = .slice (some ⟨b, 0, none⟩) n m ∧ L' = Row c (some ⟨b, 0, none⟩) n m (List.replicate n c.d) :: L) := by
 subst e1
 subst e2
 refine r_makeX ht hz hze hsz hx hy (by omega) (by omega) ?_ hby
 have : ((m * by_ : Nat) : Int) = (m : Int) * by_ := Int.natCast_mul _ _
 omega
end
end Go.Sl
