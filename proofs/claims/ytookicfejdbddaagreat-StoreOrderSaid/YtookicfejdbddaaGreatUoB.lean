/- Walks of functions that the law reaches, and what they lean on; no conditions. -/
import Derived.Test.YtookicfejdbddaaGreatUoA
set_option linter.unusedVariables false
set_option linter.unusedSimpArgs false
set_option linter.unnecessarySimpa false
set_option maxRecDepth 100000
namespace Go.Proofs.YtookicfejdbddaaGreat
open Go.Sl Go.Cr
noncomputable def oFix : Or := ⟨341, 1, 1320, [.sli 0 0 2 2], [⟨0, 408, 3, false, iL .i64 [0, 0, 0, 0, 0, 0]⟩],
  [⟨0, 408, 3, false, iL .i64 [0, 0, 0, 0, 0, 0]⟩,
  ⟨1319, 5, 1, false, iL .u8 [99, 96, 0, 0]⟩], .sli 1319 0 4 4⟩
theorem oFix_ok : OrS Tryz.prog oFix := orS_of (callY_ok sp_ok (os := [oNew]) (by simp only [List.forall_mem_cons]; exact ⟨oNew_ok, by simp⟩) 100) (by decide +kernel)
end Go.Proofs.YtookicfejdbddaaGreat
