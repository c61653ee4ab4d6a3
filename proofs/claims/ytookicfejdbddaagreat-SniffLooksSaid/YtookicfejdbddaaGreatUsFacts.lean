/- Walks of functions that the law reaches, and what they lean on; no conditions. -/
import Derived.Test.YtookicfejdbddaaGreatProg
import Derived.KernelRfl
import Derived.Test.YtookicfejdbddaaGreatSl24
set_option linter.unusedVariables false
set_option linter.unusedSimpArgs false
set_option linter.unnecessarySimpa false
set_option maxRecDepth 100000
namespace Go.Proofs.YtookicfejdbddaaGreat
open Go.Sl
theorem W.b22 : bodyB Tryz.prog 22 = true := by kernel_rfl
theorem W.b229 : bodyB Tryz.prog 229 = true := by kernel_rfl
theorem W.b23 : bodyB Tryz.prog 23 = true := by kernel_rfl
theorem W.b232 : bodyB Tryz.prog 232 = true := by kernel_rfl
theorem W.b233 : bodyB Tryz.prog 233 = true := by kernel_rfl
theorem W.b234 : bodyB Tryz.prog 234 = true := by kernel_rfl
theorem W.b237 : bodyB Tryz.prog 237 = true := by kernel_rfl
theorem W.b238 : bodyB Tryz.prog 238 = true := by kernel_rfl
theorem W.b24 : bodyB Tryz.prog 24 = true := by kernel_rfl
theorem W.b25 : bodyB Tryz.prog 25 = true := by kernel_rfl
theorem W.b26 : bodyB Tryz.prog 26 = true := by kernel_rfl
theorem W.b27 : bodyB Tryz.prog 27 = true := by kernel_rfl
theorem W.b28 : bodyB Tryz.prog 28 = true := by kernel_rfl
theorem W.b29 : bodyB Tryz.prog 29 = true := by kernel_rfl
theorem W.b30 : bodyB Tryz.prog 30 = true := by kernel_rfl
theorem W.b422 : bodyB Tryz.prog 422 = true := by kernel_rfl
theorem W.b425 : bodyB Tryz.prog 425 = true := by kernel_rfl
theorem W.b426 : bodyB Tryz.prog 426 = true := by kernel_rfl
theorem W.b429 : bodyB Tryz.prog 429 = true := by kernel_rfl
theorem W.b474 : bodyB Tryz.prog 474 = true := by kernel_rfl
theorem W.b477 : bodyB Tryz.prog 477 = true := by kernel_rfl
theorem W.b478 : bodyB Tryz.prog 478 = true := by kernel_rfl
theorem W.b481 : bodyB Tryz.prog 481 = true := by kernel_rfl
theorem W.b73 : bodyB Tryz.prog 73 = true := by kernel_rfl
theorem W.b74 : bodyB Tryz.prog 74 = true := by kernel_rfl
theorem W.b75 : bodyB Tryz.prog 75 = true := by kernel_rfl
theorem W.b76 : bodyB Tryz.prog 76 = true := by kernel_rfl
theorem W.b77 : bodyB Tryz.prog 77 = true := by kernel_rfl
theorem W.b78 : bodyB Tryz.prog 78 = true := by kernel_rfl
theorem W.b79 : bodyB Tryz.prog 79 = true := by kernel_rfl
theorem W.b80 : bodyB Tryz.prog 80 = true := by kernel_rfl
theorem W.c207 : concB Tryz.prog 207 = true := by kernel_rfl
theorem W.c208 : concB Tryz.prog 208 = true := by kernel_rfl
theorem W.c209 : concB Tryz.prog 209 = true := by kernel_rfl
theorem W.me207_229 : methB Tryz.prog 207 "engraver/sniff.begins" = some 229 := by kernel_rfl
theorem W.me207_232 : methB Tryz.prog 207 "engraver/sniff.least" = some 232 := by kernel_rfl
theorem W.me207_233 : methB Tryz.prog 207 "engraver/sniff.sides" = some 233 := by kernel_rfl
theorem W.me208_422 : methB Tryz.prog 208 "engraver/sniff.begins" = some 422 := by kernel_rfl
theorem W.me208_425 : methB Tryz.prog 208 "engraver/sniff.least" = some 425 := by kernel_rfl
theorem W.me208_426 : methB Tryz.prog 208 "engraver/sniff.sides" = some 426 := by kernel_rfl
theorem W.me209_474 : methB Tryz.prog 209 "engraver/sniff.begins" = some 474 := by kernel_rfl
theorem W.me209_477 : methB Tryz.prog 209 "engraver/sniff.least" = some 477 := by kernel_rfl
theorem W.me209_478 : methB Tryz.prog 209 "engraver/sniff.sides" = some 478 := by kernel_rfl
theorem W.mixed : Tryz.prog.follows .mixedOrders = true := by kernel_rfl
theorem W.pl207 : placesB Tryz.prog 207 = some [] := by kernel_rfl
theorem W.pl208 : placesB Tryz.prog 208 = some [] := by kernel_rfl
theorem W.pl209 : placesB Tryz.prog 209 = some [] := by kernel_rfl
theorem W.s5 : scalarB Tryz.prog 5 = true := by kernel_rfl
theorem W.sl28 : sliceB Tryz.prog 28 = some (5, 1, 1) := by kernel_rfl
theorem W.u191 : undB Tryz.prog 191 = true := by kernel_rfl
theorem W.u21 : undB Tryz.prog 21 = true := by kernel_rfl
theorem W.u3 : undB Tryz.prog 3 = true := by kernel_rfl
theorem W.u5 : undB Tryz.prog 5 = true := by kernel_rfl
theorem W.z207 : zeroB Tryz.prog 207 = some ([]) := by kernel_rfl
theorem W.z208 : zeroB Tryz.prog 208 = some ([]) := by kernel_rfl
theorem W.z209 : zeroB Tryz.prog 209 = some ([]) := by kernel_rfl
end Go.Proofs.YtookicfejdbddaaGreat
