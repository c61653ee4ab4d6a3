/- Walks of functions that the law reaches, and what they lean on; no conditions. -/
import Derived.Test.YtmbljkghkcgejaaGreatSl18
set_option linter.unusedVariables false
set_option linter.unusedSimpArgs false
set_option maxRecDepth 100000
namespace Go.Sl
theorem Ctr.star {P : Program} {f : FuncId} {args : List Value} {A : List HProp} {K : Value → Prop} (h : Ctr P f args A (Ret fun v G => K v ∧ G = A)) : Ctr P f args [Star A] (Ret fun v G => K v ∧ G = [Star A]) := fun w0 F w hi => by
 refine (h w0 F w hi.unstar).mono ?_
 rintro e w' ⟨G, h1, v, rfl, hv, rfl⟩
 exact ⟨[Star _], h1.star, v, rfl, hv, rfl⟩
section
variable {C : Ctx} {Q : QT} {E : Env} {L M F : List HProp} {ops : Array Oper} {rest : List Oper}
theorem w_star {c : Code} {A : List HProp} (hr : Rems L A M) (k : Wp C c Q E (Star A :: M)) : Wp C c Q E L := fun a w ha hi => k a w ha (hi.perm hr.perm).star
theorem w_unstar {c : Code} {A : List HProp} (hr : Rem L (Star A) M) (k : Wp C c Q E (A ++ M)) : Wp C c Q E L := fun a w ha hi => k a w ha (hi.perm hr.perm).unstar
theorem o_star {A : List HProp} (hr : Rems L A M) (k : Ops C ops rest Q E (Star A :: M)) : Ops C ops rest Q E L := fun a w ha hi => k a w ha (hi.perm hr.perm).star
theorem o_unstar {A : List HProp} (hr : Rem L (Star A) M) (k : Ops C ops rest Q E (A ++ M)) : Ops C ops rest Q E L := fun a w ha hi => k a w ha (hi.perm hr.perm).unstar
end
end Go.Sl
