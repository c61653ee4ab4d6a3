/- Walks of functions that the law reaches, and what they lean on; no conditions. -/
import Derived.Test.YtmbljkghkcgejaaGreatSl18
set_option linter.unusedVariables false
set_option linter.unusedSimpArgs false
set_option maxRecDepth 100000
namespace Go.Sl
theorem aD.star {P : Program} {f : FuncId} {args : List Value} {A : List ae} {K : Value → Prop} (h : aD P f args A (aK fun v G => K v ∧ G = A)) : aD P f args [lK A] (aK fun v G => K v ∧ G = [lK A]) := fun w0 F w hi => by
 refine (h w0 F w hi.vT).mono ?_
 rintro e w' ⟨G, h1, v, rfl, hv, rfl⟩
 exact ⟨[lK _], h1.star, v, rfl, hv, rfl⟩
section
variable {C : Ctx} {Q : QT} {E : Env} {L M F : List ae} {ops : Array Oper} {rest : List Oper}
theorem IX {c : Code} {A : List ae} (hr : fy L A M) (k : Wp C c Q E (lK A :: M)) : Wp C c Q E L := fun a w ha hi => k a w ha (hi.perm hr.perm).star
theorem Fu {c : Code} {A : List ae} (hr : iK L (lK A) M) (k : Wp C c Q E (A ++ M)) : Wp C c Q E L := fun a w ha hi => k a w ha (hi.perm hr.perm).vT
theorem Kk {A : List ae} (hr : fy L A M) (k : dk C ops rest Q E (lK A :: M)) : dk C ops rest Q E L := fun a w ha hi => k a w ha (hi.perm hr.perm).star
theorem Fh {A : List ae} (hr : iK L (lK A) M) (k : dk C ops rest Q E (A ++ M)) : dk C ops rest Q E L := fun a w ha hi => k a w ha (hi.perm hr.perm).vT
end
end Go.Sl
