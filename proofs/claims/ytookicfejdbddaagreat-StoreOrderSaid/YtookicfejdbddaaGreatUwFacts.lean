/- Walks of functions that the law reaches, and what they lean on; no conditions. -/
import Derived.Test.YtookicfejdbddaaGreatProg
import Derived.KernelRfl
import Derived.Test.YtookicfejdbddaaGreatSl24
set_option linter.unusedVariables false
set_option linter.unusedSimpArgs false
set_option linter.unnecessarySimpa false
set_option maxRecDepth 100000
namespace Go.Proofs.YtookicfejdbddaaGreat
open Go.Sl
theorem Y.ar511 : arrayB Tryz.prog 511 = some (32, 5, 1) := by kernel_rfl
theorem Y.b408 : bodyB Tryz.prog 408 = true := by kernel_rfl
theorem Y.b510 : bodyB Tryz.prog 510 = true := by kernel_rfl
theorem Y.b511 : bodyB Tryz.prog 511 = true := by kernel_rfl
theorem Y.s5 : scalarB Tryz.prog 5 = true := by kernel_rfl
theorem Y.u5 : undB Tryz.prog 5 = true := by kernel_rfl
end Go.Proofs.YtookicfejdbddaaGreat
