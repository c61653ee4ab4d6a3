/- Steps of the proof: the walks of the functions that the statement reaches; printed by a program of ours. -/
import Derived.Test.YtmclopghpnndnaaProg
import Derived.KernelRfl
import Derived.Test.YtmclopghpnndnaaSl12
import Derived.Test.YtmclopghpnndnaaSl20
/-
  Facts about the types of the program; printed by a program of ours.
-/
namespace Go.Proofs.Ytmclopghpnndnaa
open Go.Sl
theorem V.a56 : aggB Try.prog 56 = some 16 := by kernel_rfl
theorem V.a63 : aggB Try.prog 63 = some 2 := by kernel_rfl
theorem V.ar56 : arrayB Try.prog 56 = some (16, 3, 1) := by kernel_rfl
theorem V.b10 : bodyB Try.prog 10 = true := by kernel_rfl
theorem V.b12 : bodyB Try.prog 12 = true := by kernel_rfl
theorem V.b28 : bodyB Try.prog 28 = true := by kernel_rfl
theorem V.b29 : bodyB Try.prog 29 = true := by kernel_rfl
theorem V.b30 : bodyB Try.prog 30 = true := by kernel_rfl
theorem V.b31 : bodyB Try.prog 31 = true := by kernel_rfl
theorem V.b43 : bodyB Try.prog 43 = true := by kernel_rfl
theorem V.b44 : bodyB Try.prog 44 = true := by kernel_rfl
theorem V.b54 : bodyB Try.prog 54 = true := by kernel_rfl
theorem V.b55 : bodyB Try.prog 55 = true := by kernel_rfl
theorem V.b70 : bodyB Try.prog 70 = true := by kernel_rfl
theorem V.b77 : bodyB Try.prog 77 = true := by kernel_rfl
theorem V.b9 : bodyB Try.prog 9 = true := by kernel_rfl
theorem V.f58_0 : fieldB Try.prog 58 0 = some 0 := by kernel_rfl
theorem V.f58_1 : fieldB Try.prog 58 1 = some 1 := by kernel_rfl
theorem V.f58_2 : fieldB Try.prog 58 2 = some 17 := by kernel_rfl
theorem V.f58_3 : fieldB Try.prog 58 3 = some 18 := by kernel_rfl
theorem V.f63_0 : fieldB Try.prog 63 0 = some 0 := by kernel_rfl
theorem V.f63_1 : fieldB Try.prog 63 1 = some 1 := by kernel_rfl
theorem V.mixed : Try.prog.follows .mixedOrders = true := by kernel_rfl
theorem V.pl58 : placesB Try.prog 58 = some [(0, 1), (1, 16), (17, 1), (18, 1)] := by kernel_rfl
theorem V.pl63 : placesB Try.prog 63 = some [(0, 1), (1, 1)] := by kernel_rfl
theorem V.s22 : scalarB Try.prog 22 = true := by kernel_rfl
theorem V.s3 : scalarB Try.prog 3 = true := by kernel_rfl
theorem V.s55 : scalarB Try.prog 55 = true := by kernel_rfl
theorem V.sl22 : sliceB Try.prog 22 = some (3, 1, 8) := by kernel_rfl
theorem V.sl55 : sliceB Try.prog 55 = some (63, 2, 16) := by kernel_rfl
theorem V.u3 : undB Try.prog 3 = true := by kernel_rfl
theorem V.u34 : undB Try.prog 34 = true := by kernel_rfl
theorem V.z3 : zeroB Try.prog 3 = some ([.int .i64 0]) := by kernel_rfl
theorem V.z58 : zeroB Try.prog 58 = some ([.slice none 0 0, .int .i64 0, .int .i64 0, .int .i64 0, .int .i64 0, .int .i64 0, .int .i64 0, .int .i64 0, .int .i64 0, .int .i64 0, .int .i64 0, .int .i64 0, .int .i64 0, .int .i64 0, .int .i64 0, .int .i64 0, .int .i64 0, .slice none 0 0, .int .i64 0]) := by kernel_rfl
theorem V.z63 : zeroB Try.prog 63 = some ([.int .i64 0, .int .i64 0]) := by kernel_rfl
end Go.Proofs.Ytmclopghpnndnaa

/-
  Facts about the types of the program, continued; printed by a program of ours.
-/
namespace Go.Proofs.Ytmclopghpnndnaa
open Go.Sl
theorem V.b14 : bodyB Try.prog 14 = true := by kernel_rfl
theorem V.b15 : bodyB Try.prog 15 = true := by kernel_rfl
theorem V.b17 : bodyB Try.prog 17 = true := by kernel_rfl
theorem V.b32 : bodyB Try.prog 32 = true := by kernel_rfl
theorem V.b33 : bodyB Try.prog 33 = true := by kernel_rfl
theorem V.b34 : bodyB Try.prog 34 = true := by kernel_rfl
theorem V.b36 : bodyB Try.prog 36 = true := by kernel_rfl
theorem V.b45 : bodyB Try.prog 45 = true := by kernel_rfl
theorem V.b46 : bodyB Try.prog 46 = true := by kernel_rfl
theorem V.c73 : concB Try.prog 73 = true := by kernel_rfl
theorem V.c89 : concB Try.prog 89 = true := by kernel_rfl
theorem V.f68_0 : fieldB Try.prog 68 0 = some 0 := by kernel_rfl
theorem V.f68_2 : fieldB Try.prog 68 2 = some 2 := by kernel_rfl
theorem V.f70_0 : fieldB Try.prog 70 0 = some 0 := by kernel_rfl
theorem V.fn1 : funcB Try.prog 1 = true := by kernel_rfl
theorem V.pl68 : placesB Try.prog 68 = some [(0, 1), (1, 1), (2, 1), (3, 1)] := by kernel_rfl
theorem V.pl70 : placesB Try.prog 70 = some [(0, 4)] := by kernel_rfl
theorem V.pl73 : placesB Try.prog 73 = some [] := by kernel_rfl
theorem V.pl89 : placesB Try.prog 89 = some [] := by kernel_rfl
theorem V.s24 : scalarB Try.prog 24 = true := by kernel_rfl
theorem V.s35 : scalarB Try.prog 35 = true := by kernel_rfl
theorem V.s4 : scalarB Try.prog 4 = true := by kernel_rfl
theorem V.s5 : scalarB Try.prog 5 = true := by kernel_rfl
theorem V.sl35 : sliceB Try.prog 35 = some (5, 1, 1) := by kernel_rfl
theorem V.u5 : undB Try.prog 5 = true := by kernel_rfl
theorem V.z24 : zeroB Try.prog 24 = some ([.pointer none]) := by kernel_rfl
theorem V.z4 : zeroB Try.prog 4 = some ([.bool false]) := by kernel_rfl
theorem V.z5 : zeroB Try.prog 5 = some ([.int .u8 0]) := by kernel_rfl
theorem V.z68 : zeroB Try.prog 68 = some ([.slice none 0 0, .slice none 0 0, .int .i64 0, .int .i64 0]) := by kernel_rfl
theorem V.z70 : zeroB Try.prog 70 = some ([.slice none 0 0, .slice none 0 0, .int .i64 0, .int .i64 0]) := by kernel_rfl
theorem V.z73 : zeroB Try.prog 73 = some ([]) := by kernel_rfl
theorem V.z89 : zeroB Try.prog 89 = some ([]) := by kernel_rfl
end Go.Proofs.Ytmclopghpnndnaa

/-
  Facts about the types of the program, continued; printed by a program of ours.
-/
namespace Go.Proofs.Ytmclopghpnndnaa
open Go.Sl
theorem V.a79 : aggB Try.prog 79 = some 2 := by kernel_rfl
theorem V.b38 : bodyB Try.prog 38 = true := by kernel_rfl
theorem V.b39 : bodyB Try.prog 39 = true := by kernel_rfl
theorem V.b40 : bodyB Try.prog 40 = true := by kernel_rfl
theorem V.b41 : bodyB Try.prog 41 = true := by kernel_rfl
theorem V.b42 : bodyB Try.prog 42 = true := by kernel_rfl
theorem V.b49 : bodyB Try.prog 49 = true := by kernel_rfl
theorem V.b50 : bodyB Try.prog 50 = true := by kernel_rfl
theorem V.b51 : bodyB Try.prog 51 = true := by kernel_rfl
theorem V.b56 : bodyB Try.prog 56 = true := by kernel_rfl
theorem V.b57 : bodyB Try.prog 57 = true := by kernel_rfl
theorem V.b58 : bodyB Try.prog 58 = true := by kernel_rfl
theorem V.b71 : bodyB Try.prog 71 = true := by kernel_rfl
theorem V.b78 : bodyB Try.prog 78 = true := by kernel_rfl
theorem V.f79_0 : fieldB Try.prog 79 0 = some 0 := by kernel_rfl
theorem V.f79_1 : fieldB Try.prog 79 1 = some 1 := by kernel_rfl
theorem V.pl79 : placesB Try.prog 79 = some [(0, 1), (1, 1)] := by kernel_rfl
theorem V.s77 : scalarB Try.prog 77 = true := by kernel_rfl
theorem V.sl100 : sliceB Try.prog 100 = some (22, 1, 24) := by kernel_rfl
theorem V.sl77 : sliceB Try.prog 77 = some (79, 2, 32) := by kernel_rfl
theorem V.sl91 : sliceB Try.prog 91 = some (77, 1, 24) := by kernel_rfl
theorem V.z22 : zeroB Try.prog 22 = some ([.slice none 0 0]) := by kernel_rfl
theorem V.z77 : zeroB Try.prog 77 = some ([.slice none 0 0]) := by kernel_rfl
theorem V.z79 : zeroB Try.prog 79 = some ([.int .i64 0, .slice none 0 0]) := by kernel_rfl
end Go.Proofs.Ytmclopghpnndnaa
