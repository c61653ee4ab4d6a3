/- Walks of functions that the law reaches, and what they lean on; no conditions. -/
import Derived.Test.YtmbljkghkcgejaaGreatSlOpen
set_option linter.unusedVariables false
set_option linter.unusedSimpArgs false
set_option maxRecDepth 100000
namespace Go.Sl
def Deep (T : TypeId) (e : Td) (p : Option Addr) (n : Nat) (l : List e.Ty) : ae := fun w0 h => bJ (Td.ec T e) p n l w0 h ∧ ∀ y ∈ l, e.Holds w0 y
theorem vH {w0 : World} {L : List ae} {T : TypeId} {e : Td} {p : Option Addr} {n : Nat} {l : List e.Ty} (hm : Deep T e p n l ∈ L) : Has w0 L (Td.ec T e) p n l := ⟨_, hm, fun _ h => h.1⟩
theorem Deep.fact {w0 w : World} {L : List ae} {T : TypeId} {e : Td} {p : Option Addr} {n : Nat} {l : List e.Ty} (hm : Deep T e p n l ∈ L) (hi : Inv w0 L w) : ∀ y ∈ l, e.Holds w0 y := by
 obtain ⟨F, hb, h, a, h1, h2, d, l1, l2, hp, _⟩ := hi.mem hm
 exact hp.2
section
variable {C : Ctx} {Q : QT} {E : Env} {L : List ae} {ops : Array Oper} {rest : List Oper}
theorem HU {c : Code} {T : TypeId} {e : Td} {p : Option Addr} {n : Nat} {l : List e.Ty} (hm : Deep T e p n l ∈ L) (k : (∀ y ∈ l, e.Holds C.w0 y) → Wp C c Q E L) : Wp C c Q E L := od (fun w hi => Deep.fact hm hi) k
end
theorem A6 {w : World} {T : TypeId} {e : Td} {x : KI e.Ty} (hx : (Td.sl T e).Holds w x) : Deep T e x.p x.l.length x.l w (fun _ => none) := ⟨hx.2.1, hx.2.2⟩
theorem An {w : World} {T : TypeId} {k : IntKind} {x : KI Int} (hx : (Td.sl T (.int k)).Holds w x) : bJ (qE T k) x.p x.l.length x.l w (fun _ => none) := hx.2.1
end Go.Sl
