/-
  Facts about the types of the program, continued; printed by a program of ours.
-/
import Derived.Test.YtmclopghpnndnaaHuffFacts2
import Derived.Test.YtmclopghpnndnaaSl20
namespace Go.Proofs.Ytmclopghpnndnaa
open Go.Sl
theorem V.a79 : aggB Try.prog 79 = some 2 := by kernel_rfl
theorem V.b38 : bodyB Try.prog 38 = true := by kernel_rfl
theorem V.b39 : bodyB Try.prog 39 = true := by kernel_rfl
theorem V.b40 : bodyB Try.prog 40 = true := by kernel_rfl
theorem V.b41 : bodyB Try.prog 41 = true := by kernel_rfl
theorem V.b42 : bodyB Try.prog 42 = true := by kernel_rfl
theorem V.b49 : bodyB Try.prog 49 = true := by kernel_rfl
theorem V.b50 : bodyB Try.prog 50 = true := by kernel_rfl
theorem V.b51 : bodyB Try.prog 51 = true := by kernel_rfl
theorem V.b56 : bodyB Try.prog 56 = true := by kernel_rfl
theorem V.b57 : bodyB Try.prog 57 = true := by kernel_rfl
theorem V.b58 : bodyB Try.prog 58 = true := by kernel_rfl
theorem V.b71 : bodyB Try.prog 71 = true := by kernel_rfl
theorem V.b78 : bodyB Try.prog 78 = true := by kernel_rfl
theorem V.f79_0 : fieldB Try.prog 79 0 = some 0 := by kernel_rfl
theorem V.f79_1 : fieldB Try.prog 79 1 = some 1 := by kernel_rfl
theorem V.pl79 : placesB Try.prog 79 = some [(0, 1), (1, 1)] := by kernel_rfl
theorem V.s77 : scalarB Try.prog 77 = true := by kernel_rfl
theorem V.sl100 : sliceB Try.prog 100 = some (22, 1, 24) := by kernel_rfl
theorem V.sl77 : sliceB Try.prog 77 = some (79, 2, 32) := by kernel_rfl
theorem V.sl91 : sliceB Try.prog 91 = some (77, 1, 24) := by kernel_rfl
theorem V.z22 : zeroB Try.prog 22 = some ([.slice none 0 0]) := by kernel_rfl
theorem V.z77 : zeroB Try.prog 77 = some ([.slice none 0 0]) := by kernel_rfl
theorem V.z79 : zeroB Try.prog 79 = some ([.int .i64 0, .slice none 0 0]) := by kernel_rfl
end Go.Proofs.Ytmclopghpnndnaa
