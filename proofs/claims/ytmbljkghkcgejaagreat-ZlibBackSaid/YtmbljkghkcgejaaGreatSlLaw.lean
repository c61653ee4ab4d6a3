/- Walks of functions that the law reaches, and what they lean on; no conditions. -/
import Derived.Test.YtmbljkghkcgejaaGreatSl12
set_option linter.unusedVariables false
set_option linter.unusedSimpArgs false
set_option maxRecDepth 100000
namespace Go.Sl
open Go.RowKit (Below)
theorem JO {w : World} {A : ae} (h : A w (fun _ => none)) : Inv w [A] w := (Inv.start w).sd h
theorem Kc {w : World} {A B : ae} (h : A w (fun _ => none)) (h2 : B w (fun _ => none)) : Inv w [A, B] w := (JO h2).sd h
theorem aD.law {P : Program} {f : FuncId} {args : List Value} {Pre : List ae} {R : Value → List ae → Prop} {w : World} {v : Value} (h : aD P f args Pre (aK R)) (hi : Inv w Pre w) (hv : ∀ v' G, R v' G → v' = v) :
  Calls P f args.toArray w fun e w' => e = .returned v ∧ Below w.heap.size w w' :=
 (h w [] w (by rw [List.append_nil]; exact hi)).mono fun e w' ⟨G, h1, v', h2, h3⟩ => ⟨by rw [h2, hv v' G h3], h1.below⟩
end Go.Sl
