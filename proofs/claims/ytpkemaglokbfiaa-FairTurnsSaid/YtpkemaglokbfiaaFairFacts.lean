/-
  Facts about the types of the program; printed by a program of ours.
-/
import Derived.Test.YtpkemaglokbfiaaProg
import Derived.KernelRfl
import Derived.Test.YtpkemaglokbfiaaSl12
namespace Go.Proofs.Ytpkemaglokbfiaa
open Go.Sl
theorem V.b10 : bodyB Try.prog 10 = true := by kernel_rfl
theorem V.b11 : bodyB Try.prog 11 = true := by kernel_rfl
theorem V.b12 : bodyB Try.prog 12 = true := by kernel_rfl
theorem V.b13 : bodyB Try.prog 13 = true := by kernel_rfl
theorem V.b9 : bodyB Try.prog 9 = true := by kernel_rfl
theorem V.s26 : scalarB Try.prog 26 = true := by kernel_rfl
theorem V.s4 : scalarB Try.prog 4 = true := by kernel_rfl
theorem V.s5 : scalarB Try.prog 5 = true := by kernel_rfl
theorem V.sl22 : sliceB Try.prog 22 = some (5, 1, 1) := by kernel_rfl
theorem V.sl26 : sliceB Try.prog 26 = some (4, 1, 1) := by kernel_rfl
theorem V.sl35 : sliceB Try.prog 35 = some (26, 1, 24) := by kernel_rfl
theorem V.u5 : undB Try.prog 5 = true := by kernel_rfl
theorem V.z4 : zeroB Try.prog 4 = some ([.bool false]) := by kernel_rfl
end Go.Proofs.Ytpkemaglokbfiaa
