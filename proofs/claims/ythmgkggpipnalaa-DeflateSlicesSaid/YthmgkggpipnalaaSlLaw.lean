/-
  Sl and the shells of laws: the arguments of a law as rows that are there to be read.
-/
import Derived.Test.YthmgkggpipnalaaSl12
namespace Go.Sl
open Go.RowKit (Below)
set_option linter.unusedVariables false

/-- The start of a walk: the rows that came in. -/
theorem start1 {w : World} {A : HProp} (h : A w (fun _ => none)) : Inv w [A] w := (Inv.start w).add0 h
theorem start2 {w : World} {A B : HProp} (h : A w (fun _ => none)) (h2 : B w (fun _ => none)) : Inv w [A, B] w := (start1 h2).add0 h
theorem start3 {w : World} {A B D : HProp} (h : A w (fun _ => none)) (h2 : B w (fun _ => none)) (h3 : D w (fun _ => none)) : Inv w [A, B, D] w := (start2 h2 h3).add0 h
/-- A contract of a law, used. -/
theorem Ctr.law {P : Program} {f : FuncId} {args : List Value} {Pre : List HProp} {R : Value → List HProp → Prop} {w : World} {v : Value} (h : Ctr P f args Pre (Ret R)) (hi : Inv w Pre w) (hv : ∀ v' G, R v' G → v' = v) :
    Calls P f args.toArray w fun e w' => e = .returned v ∧ Below w.heap.size w w' :=
  (h w [] w (by rw [List.append_nil]; exact hi)).mono fun e w' ⟨G, h1, v', h2, h3⟩ => ⟨by rw [h2, hv v' G h3], h1.below⟩
end Go.Sl
