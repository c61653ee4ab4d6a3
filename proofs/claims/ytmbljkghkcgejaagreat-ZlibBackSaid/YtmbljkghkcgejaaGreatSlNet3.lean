/- Walks of functions that the law reaches, and what they lean on; no conditions. -/
import Derived.Test.YtmbljkghkcgejaaGreatSlNet2
set_option linter.unusedVariables false
set_option linter.unusedSimpArgs false
set_option maxRecDepth 100000
namespace Go.Sl
section
variable {C : Ctx} {E : Env} {L F G : List ae} {ops : Array Oper} {d : Option Nat} {ty : TypeId} {pos : String} {aft : Array Edge} {op : Op} {o : Oper} {α : Type} {c : Ec α}
theorem uo {n : Nat} {l : List α} (h : lB C op ty E L (fun v L' => ∃ p' c', v = .slice p' n c' ∧ L' = Row c p' n c' l :: F)) (hF : F.Perm G) :
  Step C ops ⟨d, op, ty, pos, aft, none⟩ E L (fun v L' => v = .slice (bY v) n (fp v) ∧ True ∧ L'.Perm ([Row c (bY v) n (fp v) l] ++ G)) :=
 vW fun d pos aft g a w K Q ha hi hK => h d pos aft g a w K Q ha hi fun v L' w' ⟨p, c', e1, e2⟩ hi' => hK v L' w' (by subst e1; subst e2; exact ⟨rfl, trivial, List.Perm.cons _ hF⟩) hi'
def iH : Value → Nat | .pointer (some a) => a.block | _ => 0
theorem kV {n m : Nat} {l : List α} (h : lB C op ty E L (fun v L' => ∃ b, v = .slice (some ⟨b, 0, none⟩) n m ∧ L' = Row c (some ⟨b, 0, none⟩) n m l :: L)) :
  Step C ops ⟨d, op, ty, pos, aft, none⟩ E L (fun v L' => v = .slice (some ⟨cK (bY v), 0, none⟩) n m ∧ True ∧ L'.Perm ([Row c (some ⟨cK (bY v), 0, none⟩) n m l] ++ L)) :=
 vW fun d pos aft g a w K Q ha hi hK => h d pos aft g a w K Q ha hi fun v L' w' ⟨b, e1, e2⟩ hi' => hK v L' w' (by subst e1; subst e2; exact ⟨rfl, trivial, List.Perm.refl _⟩) hi'
theorem Dt {t : TypeId} {cs : List Value} (h : lB C op ty E L (fun v L' => ∃ b, v = .pointer (some ⟨b, 0, none⟩) ∧ L' = av b t cs :: L)) :
  Step C ops ⟨d, op, ty, pos, aft, none⟩ E L (fun v L' => v = .pointer (some ⟨iH v, 0, none⟩) ∧ True ∧ L'.Perm ([av (iH v) t cs] ++ L)) :=
 vW fun d pos aft g a w K Q ha hi hK => h d pos aft g a w K Q ha hi fun v L' w' ⟨b, e1, e2⟩ hi' => hK v L' w' (by subst e1; subst e2; exact ⟨rfl, trivial, List.Perm.refl _⟩) hi'
theorem Kl {t : TypeId} {x : Operand} {u : Value} {cs : List Value} (hx : ay E x = some u) (hc : u.cells.toList = cs) : lB C (.box t x) ty E L (fun v L' => ∃ b, v = .pointer (some ⟨b, 0, none⟩) ∧ L' = av b t cs :: L) := by
 subst hc; exact Gr hx
theorem dx {f : FuncId} {args : List Operand} {tys : Array TypeId} {vs : List Value} {Pre Post : List ae} {R : Value → List ae → Prop} {v0 : Value} (hS : aD C.P f vs Pre (aK R)) (hb : aC C.P f = true) (hE : iB E args = some vs) (hL : fy L Pre F) (hR : ∀ v G, R v G → v = v0 ∧ G.Perm Post) :
  Step C ops ⟨d, .call ⟨.value (.func f), args.toArray, tys⟩, ty, pos, aft, none⟩ E L (fun v L' => v = v0 ∧ L'.Perm (Post ++ F)) :=
 tP hS hb hE hL fun v G hr => ⟨(hR v G hr).1, (hR v G hr).2.append_right F⟩
theorem pC {x y : Operand} {t by_ : Nat} {k1 k2 : IntKind} {i1 i2 : Int} {zs : List Value} (n m : Nat) (c : Ec α) (e1 : i1 = (n : Int)) (e2 : i2 = (m : Int)) (ht : sliceB C.P t = some (c.T, c.sz, by_)) (hz : dc C.P c.T = some zs) (hze : zs = c.e c.d) (hsz : Nat.ble 1 c.sz = true)
  (hx : ay E x = some (.int k1 i1)) (hy : ay E y = some (.int k2 i2)) (hnc : n ≤ m) (hb : m * by_ ≤ 281474976710656) (hby : Nat.ble 1 by_ = true) :
  lB C (.makeSlice t x y) ty E L (fun v L' => ∃ b, v = .slice (some ⟨b, 0, none⟩) n m ∧ L' = Row c (some ⟨b, 0, none⟩) n m (List.replicate n c.d) :: L) := by
 subst e1
 subst e2
 refine yG ht hz hze hsz hx hy (by omega) (by omega) ?_ hby
 have : ((m * by_ : Nat) : Int) = (m : Int) * by_ := Int.natCast_mul _ _
 omega
end
end Go.Sl
