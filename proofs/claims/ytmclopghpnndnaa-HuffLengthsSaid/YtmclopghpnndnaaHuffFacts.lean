/-
  Facts about the types of the program; printed by a program of ours.
-/
import Derived.Test.YtmclopghpnndnaaProg
import Derived.KernelRfl
import Derived.Test.YtmclopghpnndnaaSl12
namespace Go.Proofs.Ytmclopghpnndnaa
open Go.Sl
theorem V.a56 : aggB Try.prog 56 = some 16 := by kernel_rfl
theorem V.a63 : aggB Try.prog 63 = some 2 := by kernel_rfl
theorem V.ar56 : arrayB Try.prog 56 = some (16, 3, 1) := by kernel_rfl
theorem V.b10 : bodyB Try.prog 10 = true := by kernel_rfl
theorem V.b11 : bodyB Try.prog 11 = true := by kernel_rfl
theorem V.b12 : bodyB Try.prog 12 = true := by kernel_rfl
theorem V.b28 : bodyB Try.prog 28 = true := by kernel_rfl
theorem V.b29 : bodyB Try.prog 29 = true := by kernel_rfl
theorem V.b30 : bodyB Try.prog 30 = true := by kernel_rfl
theorem V.b31 : bodyB Try.prog 31 = true := by kernel_rfl
theorem V.b43 : bodyB Try.prog 43 = true := by kernel_rfl
theorem V.b44 : bodyB Try.prog 44 = true := by kernel_rfl
theorem V.b54 : bodyB Try.prog 54 = true := by kernel_rfl
theorem V.b55 : bodyB Try.prog 55 = true := by kernel_rfl
theorem V.b70 : bodyB Try.prog 70 = true := by kernel_rfl
theorem V.b77 : bodyB Try.prog 77 = true := by kernel_rfl
theorem V.b9 : bodyB Try.prog 9 = true := by kernel_rfl
theorem V.f58_0 : fieldB Try.prog 58 0 = some 0 := by kernel_rfl
theorem V.f58_1 : fieldB Try.prog 58 1 = some 1 := by kernel_rfl
theorem V.f58_2 : fieldB Try.prog 58 2 = some 17 := by kernel_rfl
theorem V.f58_3 : fieldB Try.prog 58 3 = some 18 := by kernel_rfl
theorem V.f63_0 : fieldB Try.prog 63 0 = some 0 := by kernel_rfl
theorem V.f63_1 : fieldB Try.prog 63 1 = some 1 := by kernel_rfl
theorem V.f65_0 : fieldB Try.prog 65 0 = some 0 := by kernel_rfl
theorem V.f65_1 : fieldB Try.prog 65 1 = some 16 := by kernel_rfl
theorem V.f65_2 : fieldB Try.prog 65 2 = some 17 := by kernel_rfl
theorem V.mixed : Try.prog.follows .mixedOrders = true := by kernel_rfl
theorem V.pl58 : placesB Try.prog 58 = some [(0, 1), (1, 16), (17, 1), (18, 1)] := by kernel_rfl
theorem V.pl63 : placesB Try.prog 63 = some [(0, 1), (1, 1)] := by kernel_rfl
theorem V.pl65 : placesB Try.prog 65 = some [(0, 16), (16, 1), (17, 1)] := by kernel_rfl
theorem V.s22 : scalarB Try.prog 22 = true := by kernel_rfl
theorem V.s3 : scalarB Try.prog 3 = true := by kernel_rfl
theorem V.s55 : scalarB Try.prog 55 = true := by kernel_rfl
theorem V.sl22 : sliceB Try.prog 22 = some (3, 1, 8) := by kernel_rfl
theorem V.sl55 : sliceB Try.prog 55 = some (63, 2, 16) := by kernel_rfl
theorem V.u3 : undB Try.prog 3 = true := by kernel_rfl
theorem V.u34 : undB Try.prog 34 = true := by kernel_rfl
theorem V.z3 : zeroB Try.prog 3 = some ([.int .i64 0]) := by kernel_rfl
theorem V.z58 : zeroB Try.prog 58 = some ([.slice none 0 0, .int .i64 0, .int .i64 0, .int .i64 0, .int .i64 0, .int .i64 0, .int .i64 0, .int .i64 0, .int .i64 0, .int .i64 0, .int .i64 0, .int .i64 0, .int .i64 0, .int .i64 0, .int .i64 0, .int .i64 0, .int .i64 0, .slice none 0 0, .int .i64 0]) := by kernel_rfl
theorem V.z63 : zeroB Try.prog 63 = some ([.int .i64 0, .int .i64 0]) := by kernel_rfl
theorem V.z65 : zeroB Try.prog 65 = some ([.int .i64 0, .int .i64 0, .int .i64 0, .int .i64 0, .int .i64 0, .int .i64 0, .int .i64 0, .int .i64 0, .int .i64 0, .int .i64 0, .int .i64 0, .int .i64 0, .int .i64 0, .int .i64 0, .int .i64 0, .int .i64 0, .slice none 0 0, .slice none 0 0]) := by kernel_rfl
end Go.Proofs.Ytmclopghpnndnaa
