/- Walks of functions that the law reaches, and what they lean on; no conditions. -/
import Derived.Test.YtookicfejdbddaaGreatUpSp
set_option linter.unusedVariables false
set_option linter.unusedSimpArgs false
set_option linter.unnecessarySimpa false
set_option maxRecDepth 100000
namespace Go.Proofs.YtookicfejdbddaaGreat
open Go.Sl Go.Cr
noncomputable def oDyn : Or := ⟨342, 1, 775, [.sli 0 0 2 2], [⟨0, 408, 3, false, iL .i64 [0, 0, 0, 0, 0, 0]⟩],
  [⟨0, 408, 3, false, iL .i64 [0, 0, 0, 0, 0, 0]⟩,
  ⟨774, 5, 1, false, iL .u8 [237, 253, 1, 4, 0, 0, 0, 0, 16, 4, 0, 0, 0, 0, 0, 0, 0, 0, 0, 0, 0, 0, 0, 0, 0, 0, 0, 0, 0, 0, 0, 0, 0, 0, 0, 0, 0, 0, 0, 0, 0, 4, 0, 0, 0, 0, 0, 0, 0, 1]⟩], .sli 774 0 50 50⟩
theorem oDyn_ok : OrS Tryz.prog oDyn := orS_of (callY_ok sp_ok (os := []) (by simp) 100) (by decide +kernel)
end Go.Proofs.YtookicfejdbddaaGreat
