/-
  Facts about the types of the program; printed by a program of ours.
-/
import Derived.Test.YtpkemaglokbfiaaProg
import Derived.KernelRfl
import Derived.Test.YtpkemaglokbfiaaSl12
namespace Go.Proofs.Ytpkemaglokbfiaa
open Go.Sl
theorem V.a48 : aggB Try.prog 48 = some 5 := by kernel_rfl
theorem V.b10 : bodyB Try.prog 10 = true := by kernel_rfl
theorem V.b11 : bodyB Try.prog 11 = true := by kernel_rfl
theorem V.b12 : bodyB Try.prog 12 = true := by kernel_rfl
theorem V.b13 : bodyB Try.prog 13 = true := by kernel_rfl
theorem V.b14 : bodyB Try.prog 14 = true := by kernel_rfl
theorem V.b15 : bodyB Try.prog 15 = true := by kernel_rfl
theorem V.b16 : bodyB Try.prog 16 = true := by kernel_rfl
theorem V.b17 : bodyB Try.prog 17 = true := by kernel_rfl
theorem V.b18 : bodyB Try.prog 18 = true := by kernel_rfl
theorem V.b19 : bodyB Try.prog 19 = true := by kernel_rfl
theorem V.b20 : bodyB Try.prog 20 = true := by kernel_rfl
theorem V.b21 : bodyB Try.prog 21 = true := by kernel_rfl
theorem V.b22 : bodyB Try.prog 22 = true := by kernel_rfl
theorem V.b23 : bodyB Try.prog 23 = true := by kernel_rfl
theorem V.b24 : bodyB Try.prog 24 = true := by kernel_rfl
theorem V.b31 : bodyB Try.prog 31 = true := by kernel_rfl
theorem V.b32 : bodyB Try.prog 32 = true := by kernel_rfl
theorem V.b33 : bodyB Try.prog 33 = true := by kernel_rfl
theorem V.b9 : bodyB Try.prog 9 = true := by kernel_rfl
theorem V.f46_0 : fieldB Try.prog 46 0 = some 0 := by kernel_rfl
theorem V.f46_1 : fieldB Try.prog 46 1 = some 1 := by kernel_rfl
theorem V.f46_2 : fieldB Try.prog 46 2 = some 2 := by kernel_rfl
theorem V.f48_0 : fieldB Try.prog 48 0 = some 0 := by kernel_rfl
theorem V.f48_1 : fieldB Try.prog 48 1 = some 1 := by kernel_rfl
theorem V.f48_2 : fieldB Try.prog 48 2 = some 2 := by kernel_rfl
theorem V.f48_3 : fieldB Try.prog 48 3 = some 3 := by kernel_rfl
theorem V.f48_4 : fieldB Try.prog 48 4 = some 4 := by kernel_rfl
theorem V.mixed : Try.prog.follows .mixedOrders = true := by kernel_rfl
theorem V.pl46 : placesB Try.prog 46 = some [(0, 1), (1, 1), (2, 1)] := by kernel_rfl
theorem V.s26 : scalarB Try.prog 26 = true := by kernel_rfl
theorem V.s27 : scalarB Try.prog 27 = true := by kernel_rfl
theorem V.s3 : scalarB Try.prog 3 = true := by kernel_rfl
theorem V.s30 : scalarB Try.prog 30 = true := by kernel_rfl
theorem V.s4 : scalarB Try.prog 4 = true := by kernel_rfl
theorem V.s5 : scalarB Try.prog 5 = true := by kernel_rfl
theorem V.sl22 : sliceB Try.prog 22 = some (5, 1, 1) := by kernel_rfl
theorem V.sl26 : sliceB Try.prog 26 = some (4, 1, 1) := by kernel_rfl
theorem V.sl27 : sliceB Try.prog 27 = some (3, 1, 8) := by kernel_rfl
theorem V.sl35 : sliceB Try.prog 35 = some (26, 1, 24) := by kernel_rfl
theorem V.sl43 : sliceB Try.prog 43 = some (48, 5, 56) := by kernel_rfl
theorem V.u5 : undB Try.prog 5 = true := by kernel_rfl
theorem V.z3 : zeroB Try.prog 3 = some ([.int .i64 0]) := by kernel_rfl
theorem V.z4 : zeroB Try.prog 4 = some ([.bool false]) := by kernel_rfl
theorem V.z46 : zeroB Try.prog 46 = some ([.slice none 0 0, .slice none 0 0, .slice none 0 0]) := by kernel_rfl
theorem V.z48 : zeroB Try.prog 48 = some ([.int .i64 0, .int .i64 0, .int .i64 0, .float .f64 0, .slice none 0 0]) := by kernel_rfl
end Go.Proofs.Ytpkemaglokbfiaa
