/- Walks of functions that the law reaches, and what they lean on; no conditions. -/
import Derived.Test.YtookicfejdbddaaGreatProg
import Derived.KernelRfl
import Derived.Test.YtookicfejdbddaaGreatSl24
set_option linter.unusedVariables false
set_option linter.unusedSimpArgs false
set_option linter.unnecessarySimpa false
set_option maxRecDepth 100000
namespace Go.Proofs.YtookicfejdbddaaGreat
open Go.Sl
theorem X.a68 : aggB Tryz.prog 68 = some 6 := by kernel_rfl
theorem X.b134 : bodyB Tryz.prog 134 = true := by kernel_rfl
theorem X.b135 : bodyB Tryz.prog 135 = true := by kernel_rfl
theorem X.b32 : bodyB Tryz.prog 32 = true := by kernel_rfl
theorem X.b34 : bodyB Tryz.prog 34 = true := by kernel_rfl
theorem X.b35 : bodyB Tryz.prog 35 = true := by kernel_rfl
theorem X.b36 : bodyB Tryz.prog 36 = true := by kernel_rfl
theorem X.b37 : bodyB Tryz.prog 37 = true := by kernel_rfl
theorem X.b38 : bodyB Tryz.prog 38 = true := by kernel_rfl
theorem X.b39 : bodyB Tryz.prog 39 = true := by kernel_rfl
theorem X.b40 : bodyB Tryz.prog 40 = true := by kernel_rfl
theorem X.b41 : bodyB Tryz.prog 41 = true := by kernel_rfl
theorem X.b42 : bodyB Tryz.prog 42 = true := by kernel_rfl
theorem X.b43 : bodyB Tryz.prog 43 = true := by kernel_rfl
theorem X.b67 : bodyB Tryz.prog 67 = true := by kernel_rfl
theorem X.b81 : bodyB Tryz.prog 81 = true := by kernel_rfl
theorem X.b84 : bodyB Tryz.prog 84 = true := by kernel_rfl
theorem X.b85 : bodyB Tryz.prog 85 = true := by kernel_rfl
theorem X.b86 : bodyB Tryz.prog 86 = true := by kernel_rfl
theorem X.b87 : bodyB Tryz.prog 87 = true := by kernel_rfl
theorem X.f130_0 : fieldB Tryz.prog 130 0 = some 0 := by kernel_rfl
theorem X.f130_1 : fieldB Tryz.prog 130 1 = some 1 := by kernel_rfl
theorem X.f68_0 : fieldB Tryz.prog 68 0 = some 0 := by kernel_rfl
theorem X.f68_1 : fieldB Tryz.prog 68 1 = some 1 := by kernel_rfl
theorem X.f68_2 : fieldB Tryz.prog 68 2 = some 2 := by kernel_rfl
theorem X.f68_3 : fieldB Tryz.prog 68 3 = some 3 := by kernel_rfl
theorem X.f68_4 : fieldB Tryz.prog 68 4 = some 4 := by kernel_rfl
theorem X.f68_5 : fieldB Tryz.prog 68 5 = some 5 := by kernel_rfl
theorem X.mixed : Tryz.prog.follows .mixedOrders = true := by kernel_rfl
theorem X.pl130 : placesB Tryz.prog 130 = some [(0, 1), (1, 1)] := by kernel_rfl
theorem X.pl68 : placesB Tryz.prog 68 = some [(0, 1), (1, 1), (2, 1), (3, 1), (4, 1), (5, 1)] := by kernel_rfl
theorem X.s3 : scalarB Tryz.prog 3 = true := by kernel_rfl
theorem X.s4 : scalarB Tryz.prog 4 = true := by kernel_rfl
theorem X.s5 : scalarB Tryz.prog 5 = true := by kernel_rfl
theorem X.s58 : scalarB Tryz.prog 58 = true := by kernel_rfl
theorem X.s71 : scalarB Tryz.prog 71 = true := by kernel_rfl
theorem X.sl28 : sliceB Tryz.prog 28 = some (5, 1, 1) := by kernel_rfl
theorem X.sl71 : sliceB Tryz.prog 71 = some (68, 6, 40) := by kernel_rfl
theorem X.u5 : undB Tryz.prog 5 = true := by kernel_rfl
theorem X.z130 : zeroB Tryz.prog 130 = some ([.slice none 0 0, .int .i64 0]) := by kernel_rfl
theorem X.z68 : zeroB Tryz.prog 68 = some ([.int .i64 0, .int .i64 0, .int .i64 0, .pointer none, .bool false, .bool false]) := by kernel_rfl
end Go.Proofs.YtookicfejdbddaaGreat
