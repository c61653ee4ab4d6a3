/- Walks of functions that the law reaches, and what they lean on; no conditions. -/
import Derived.Test.YtmbljkghkcgejaaGreatSl14
set_option linter.unusedVariables false
set_option linter.unusedSimpArgs false
set_option maxRecDepth 100000
namespace Go.Sl
section
variable {C : Ctx} {Q : QT} {E : Env} {L : List ae} {ops : Array Oper} {rest : List Oper} {d : Nat} {ty : TypeId} {pos : String} {aft : Array Edge} {op : Op}
theorem qC {a : Act} {j : Nat} {want : Bool} {o oj : Oper} {t : Nat} (ha : gf C E a) (h1 : ops[j]? = some oj) (h2 : oj.dst = some t) (h3 : E.get t = some undef) (hg : o.guard = some (j, want)) : Region.wanted o (yielded ops a.tmps) = false := by
 have := ha.get t _ h3
 simp [Region.wanted, hg, yielded, h1, h2, this, undef]
theorem tO {j t : Nat} {want : Bool} {oj : Oper} (h1 : ops[j]? = some oj) (h2 : oj.dst = some t) (h3 : E.get t = some undef) (hd : Nat.blt d C.n = true) (h : dk C ops rest Q ((d, undef) :: E) L) : dk C ops (⟨some d, op, ty, pos, aft, some (j, want)⟩ :: rest) Q E L := by
 intro a w ha hi
 have hw := qC (o := ⟨some d, op, ty, pos, aft, some (j, want)⟩) ha h1 h2 h3 rfl
 unfold wpList
 rw [if_neg (by rw [hw]; simp)]
 exact h _ _ (ha.put (fM hd) _) hi
end
end Go.Sl
