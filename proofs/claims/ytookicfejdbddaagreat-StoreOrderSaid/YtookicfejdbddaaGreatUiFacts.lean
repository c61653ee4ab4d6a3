/- Walks of functions that the law reaches, and what they lean on; no conditions. -/
import Derived.Test.YtookicfejdbddaaGreatProg
import Derived.KernelRfl
import Derived.Test.YtookicfejdbddaaGreatM4
set_option linter.unusedVariables false
set_option linter.unusedSimpArgs false
set_option linter.unnecessarySimpa false
set_option maxRecDepth 100000
namespace Go.Proofs.YtookicfejdbddaaGreat
open Go.Sl
theorem V.b351 : bodyB Tryz.prog 351 = true := by kernel_rfl
theorem V.b352 : bodyB Tryz.prog 352 = true := by kernel_rfl
theorem V.b370 : bodyB Tryz.prog 370 = true := by kernel_rfl
theorem V.b371 : bodyB Tryz.prog 371 = true := by kernel_rfl
theorem V.f405_0 : fieldB Tryz.prog 405 0 = some 0 := by kernel_rfl
theorem V.f405_1 : fieldB Tryz.prog 405 1 = some 1 := by kernel_rfl
theorem V.f405_2 : fieldB Tryz.prog 405 2 = some 2 := by kernel_rfl
theorem V.mixed : Tryz.prog.follows .mixedOrders = true := by kernel_rfl
theorem V.pl405 : placesB Tryz.prog 405 = some [(0, 1), (1, 1), (2, 1)] := by kernel_rfl
theorem V.pl408 : placesB Tryz.prog 408 = some [(0, 1), (1, 1), (2, 1)] := by kernel_rfl
theorem V.s28 : scalarB Tryz.prog 28 = true := by kernel_rfl
theorem V.s3 : scalarB Tryz.prog 3 = true := by kernel_rfl
theorem V.s5 : scalarB Tryz.prog 5 = true := by kernel_rfl
theorem V.s78 : scalarB Tryz.prog 78 = true := by kernel_rfl
theorem V.sl28 : sliceB Tryz.prog 28 = some (5, 1, 1) := by kernel_rfl
theorem V.sl396 : sliceB Tryz.prog 396 = some (408, 3, 24) := by kernel_rfl
theorem V.sl78 : sliceB Tryz.prog 78 = some (3, 1, 8) := by kernel_rfl
theorem V.u191 : undB Tryz.prog 191 = true := by kernel_rfl
theorem V.u5 : undB Tryz.prog 5 = true := by kernel_rfl
theorem V.z3 : zeroB Tryz.prog 3 = some ([.int .i64 0]) := by kernel_rfl
theorem V.z405 : zeroB Tryz.prog 405 = some ([.slice none 0 0, .slice none 0 0, .slice none 0 0]) := by kernel_rfl
theorem V.z408 : zeroB Tryz.prog 408 = some ([.int .i64 0, .int .i64 0, .int .i64 0]) := by kernel_rfl
end Go.Proofs.YtookicfejdbddaaGreat
