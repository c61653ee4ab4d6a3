/-
  Facts about the types of the program, continued; printed by a program of ours.
-/
import Derived.Test.YtmclopghpnndnaaHuffFacts
import Derived.Test.YtmclopghpnndnaaSl20
namespace Go.Proofs.Ytmclopghpnndnaa
open Go.Sl
theorem V.b14 : bodyB Try.prog 14 = true := by kernel_rfl
theorem V.b15 : bodyB Try.prog 15 = true := by kernel_rfl
theorem V.b16 : bodyB Try.prog 16 = true := by kernel_rfl
theorem V.b17 : bodyB Try.prog 17 = true := by kernel_rfl
theorem V.b18 : bodyB Try.prog 18 = true := by kernel_rfl
theorem V.b19 : bodyB Try.prog 19 = true := by kernel_rfl
theorem V.b20 : bodyB Try.prog 20 = true := by kernel_rfl
theorem V.b21 : bodyB Try.prog 21 = true := by kernel_rfl
theorem V.b22 : bodyB Try.prog 22 = true := by kernel_rfl
theorem V.b23 : bodyB Try.prog 23 = true := by kernel_rfl
theorem V.b32 : bodyB Try.prog 32 = true := by kernel_rfl
theorem V.b33 : bodyB Try.prog 33 = true := by kernel_rfl
theorem V.b34 : bodyB Try.prog 34 = true := by kernel_rfl
theorem V.b35 : bodyB Try.prog 35 = true := by kernel_rfl
theorem V.b36 : bodyB Try.prog 36 = true := by kernel_rfl
theorem V.b37 : bodyB Try.prog 37 = true := by kernel_rfl
theorem V.b45 : bodyB Try.prog 45 = true := by kernel_rfl
theorem V.b46 : bodyB Try.prog 46 = true := by kernel_rfl
theorem V.b47 : bodyB Try.prog 47 = true := by kernel_rfl
theorem V.b48 : bodyB Try.prog 48 = true := by kernel_rfl
theorem V.c73 : concB Try.prog 73 = true := by kernel_rfl
theorem V.c89 : concB Try.prog 89 = true := by kernel_rfl
theorem V.f40_0 : fieldB Try.prog 40 0 = some 0 := by kernel_rfl
theorem V.f40_1 : fieldB Try.prog 40 1 = some 1 := by kernel_rfl
theorem V.f40_2 : fieldB Try.prog 40 2 = some 2 := by kernel_rfl
theorem V.f40_3 : fieldB Try.prog 40 3 = some 3 := by kernel_rfl
theorem V.f68_0 : fieldB Try.prog 68 0 = some 0 := by kernel_rfl
theorem V.f68_1 : fieldB Try.prog 68 1 = some 1 := by kernel_rfl
theorem V.f68_2 : fieldB Try.prog 68 2 = some 2 := by kernel_rfl
theorem V.f68_3 : fieldB Try.prog 68 3 = some 3 := by kernel_rfl
theorem V.f70_0 : fieldB Try.prog 70 0 = some 0 := by kernel_rfl
theorem V.fn1 : funcB Try.prog 1 = true := by kernel_rfl
theorem V.pl40 : placesB Try.prog 40 = some [(0, 1), (1, 1), (2, 1), (3, 1)] := by kernel_rfl
theorem V.pl68 : placesB Try.prog 68 = some [(0, 1), (1, 1), (2, 1), (3, 1)] := by kernel_rfl
theorem V.pl70 : placesB Try.prog 70 = some [(0, 4)] := by kernel_rfl
theorem V.pl73 : placesB Try.prog 73 = some [] := by kernel_rfl
theorem V.pl89 : placesB Try.prog 89 = some [] := by kernel_rfl
theorem V.s24 : scalarB Try.prog 24 = true := by kernel_rfl
theorem V.s35 : scalarB Try.prog 35 = true := by kernel_rfl
theorem V.s36 : scalarB Try.prog 36 = true := by kernel_rfl
theorem V.s4 : scalarB Try.prog 4 = true := by kernel_rfl
theorem V.s48 : scalarB Try.prog 48 = true := by kernel_rfl
theorem V.s5 : scalarB Try.prog 5 = true := by kernel_rfl
theorem V.sl35 : sliceB Try.prog 35 = some (5, 1, 1) := by kernel_rfl
theorem V.sl47 : sliceB Try.prog 47 = some (48, 1, 2) := by kernel_rfl
theorem V.u48 : undB Try.prog 48 = true := by kernel_rfl
theorem V.u5 : undB Try.prog 5 = true := by kernel_rfl
theorem V.z24 : zeroB Try.prog 24 = some ([.pointer none]) := by kernel_rfl
theorem V.z36 : zeroB Try.prog 36 = some ([.pointer none]) := by kernel_rfl
theorem V.z4 : zeroB Try.prog 4 = some ([.bool false]) := by kernel_rfl
theorem V.z40 : zeroB Try.prog 40 = some ([.slice none 0 0, .int .i64 0, .bool false, .bool false]) := by kernel_rfl
theorem V.z5 : zeroB Try.prog 5 = some ([.int .u8 0]) := by kernel_rfl
theorem V.z68 : zeroB Try.prog 68 = some ([.slice none 0 0, .slice none 0 0, .int .i64 0, .int .i64 0]) := by kernel_rfl
theorem V.z70 : zeroB Try.prog 70 = some ([.slice none 0 0, .slice none 0 0, .int .i64 0, .int .i64 0]) := by kernel_rfl
theorem V.z73 : zeroB Try.prog 73 = some ([]) := by kernel_rfl
theorem V.z89 : zeroB Try.prog 89 = some ([]) := by kernel_rfl
end Go.Proofs.Ytmclopghpnndnaa
