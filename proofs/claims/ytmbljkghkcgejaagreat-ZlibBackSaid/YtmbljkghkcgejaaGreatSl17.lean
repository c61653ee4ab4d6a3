/- Walks of functions that the law reaches, and what they lean on; no conditions. -/
import Derived.Test.YtmbljkghkcgejaaGreatSl16
set_option linter.unusedVariables false
set_option linter.unusedSimpArgs false
set_option maxRecDepth 100000
namespace Go.Sl
section
variable {C : Ctx} {E : Env} {L F : List ae} {ops : Array Oper} {d : Option Nat} {ty : TypeId} {pos : String} {aft : Array Edge}
theorem iY {f : FuncId} {t : Nat} {args : List Operand} {tys : Array TypeId} {vs fs cs : List Value} {Pre Post : List ae} {R : Value → List ae → Prop} {v0 : Value} (hS : aD C.P f (fs ++ vs ++ cs) Pre (aK R)) (hb : aC C.P f = true) (ht : E.get t = some (.func (.func f) fs.toArray cs.toArray)) (hE : iB E args = some vs) (hL : fy L Pre F) (hR : ∀ v G, R v G → v = v0 ∧ G.Perm Post) :
  Step C ops ⟨d, .call ⟨.value (.tmp t), args.toArray, tys⟩, ty, pos, aft, none⟩ E L (fun v L' => v = v0 ∧ L'.Perm (Post ++ F)) := by
 intro a w K Qx ha hi hK
 rw [if_pos (by simp [Region.wanted])]
 have hargs := ha.iB hE
 have hev := ha.eval (x := .tmp t) ht
 have hr : (execOp a.eval ⟨d, .call ⟨.value (.tmp t), args.toArray, tys⟩, ty, pos, aft, none⟩).run C.P w = .ok (.enter f (fs ++ vs ++ cs).toArray) w := by
  simp only [execOp, resolve, hargs, hev, Deferred.ofValue, invoke, Sem.run_bind, Sem.run_pure, Result.andThen_ok, gD hb]
  simp
 unfold Oper.wp
 rw [hr]
 refine (hS C.w0 F w (hi.perm hL.perm)).mono ?_
 rintro e w' ⟨G, h1, v, rfl, h2⟩
 obtain ⟨h3, h4⟩ := hR v G h2
 exact hK v (G ++ F) w' ⟨h3, h4.append_right F⟩ h1
end
theorem lr {n : Int} (h1 : 0 ≤ n) (h2 : n < 18446744073709551616) : IntKind.u64.wrap n = n := by
 have e : IntKind.u64.wrap n = n % 18446744073709551616 := by simp [IntKind.wrap, IntKind.bits, IntKind.signed]
 rw [e]; omega
theorem qw {m : Int} (h : 0 ≤ m) : m.fdiv (2 ^ (min (1 : Int).toNat IntKind.u64.bits)) = m / 2 := by
 rw [show min (1 : Int).toNat IntKind.u64.bits = 1 from rfl, Int.fdiv_eq_ediv_of_nonneg _ (by decide)]
 rfl
def ju (a b : Int) : Int := if a < b then -1 else if b < a then 1 else 0
theorem fh {a b : Int} : ju a b < 0 ↔ a < b := by
 unfold ju; split
 ·simp; assumption
 ·split <;> simp <;> omega
end Go.Sl
namespace Go.Sl
theorem gP {α : Type} {c : Ec α} {Pd : α → Prop} {l : List α} {e : Int} {k : Nat} (h : e.toNat = k) (hp : Pd (l.getD k c.d)) : Pd (c.g l e) := by subst h; exact hp
theorem gE {α : Type} {c : Ec α} {l : List α} {e : Int} (k : Nat) (h : e.toNat = k) : c.g l e = l.getD k c.d := by subst h; rfl
end Go.Sl
