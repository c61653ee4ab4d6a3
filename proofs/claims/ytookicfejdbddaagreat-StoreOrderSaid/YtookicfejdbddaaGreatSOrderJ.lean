/- Walks of functions that the law reaches, and what they lean on; no conditions. -/
import Derived.Test.YtookicfejdbddaaGreatRows
import Derived.WalkKit
import Derived.ProofKit
import Derived.OpenShut
import Derived.Below
import Derived.Carry
set_option linter.unusedVariables false
set_option linter.unusedSimpArgs false
set_option linter.unnecessarySimpa false
set_option maxRecDepth 100000
namespace Go.Proofs.YtookicfejdbddaaGreat.storeOrder
open Go.ChangeShapes Go.WideShapes Go.ChangeAt Go.RowKit
theorem laidOut : laidOutB Tryz.prog = true := by kernel_rfl
set_option maxHeartbeats 40000000 in
theorem joined : joinedFacts Tryz.pinned.checked.prog 7 Tryz.f7 Rows.storeOrderSpec Rows.storeOrderRow = true := by
  unfold joinedFacts
  simp only [Bool.and_eq_true]
  repeat' apply And.intro
  rotate_left
  · exact laidOut
  all_goals (as_aux_lemma => kernel_rfl)
end Go.Proofs.YtookicfejdbddaaGreat.storeOrder
