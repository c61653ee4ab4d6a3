/- Walks of functions that the law reaches, and what they lean on; no conditions. -/
import Derived.Test.YtookicfejdbddaaGreatUoB
import Derived.Test.YtookicfejdbddaaGreatUoC
import Derived.Test.YtookicfejdbddaaGreatUoD
set_option linter.unusedVariables false
set_option linter.unusedSimpArgs false
set_option linter.unnecessarySimpa false
set_option maxRecDepth 100000
namespace Go.Proofs.YtookicfejdbddaaGreat
open Go.Sl Go.Cr
theorem d_awake20 : Ctr Tryz.prog 22 [] [] (Ret fun v G => v = .bool true ∧ G = []) :=
  awakeY sp_ok (os := [oFix, oDyn, oPng]) (by simp only [List.forall_mem_cons]; exact ⟨oFix_ok, oDyn_ok, oPng_ok, by simp⟩) (n := 100) (by decide +kernel)
end Go.Proofs.YtookicfejdbddaaGreat
