/-
  Facts about the types of the program; printed by a program of ours.
-/
import Derived.Test.YtgpfhkbolhpoiaaProg
import Derived.KernelRfl
import Derived.Test.YtgpfhkbolhpoiaaSl21
namespace Go.Proofs.Ytgpfhkbolhpoiaa
open Go.Sl
theorem V.a34 : aggB Try.prog 34 = some 6 := by kernel_rfl
theorem V.a51 : aggB Try.prog 51 = some 3 := by kernel_rfl
theorem V.b10 : bodyB Try.prog 10 = true := by kernel_rfl
theorem V.b11 : bodyB Try.prog 11 = true := by kernel_rfl
theorem V.b12 : bodyB Try.prog 12 = true := by kernel_rfl
theorem V.b13 : bodyB Try.prog 13 = true := by kernel_rfl
theorem V.b14 : bodyB Try.prog 14 = true := by kernel_rfl
theorem V.b15 : bodyB Try.prog 15 = true := by kernel_rfl
theorem V.b16 : bodyB Try.prog 16 = true := by kernel_rfl
theorem V.b17 : bodyB Try.prog 17 = true := by kernel_rfl
theorem V.b18 : bodyB Try.prog 18 = true := by kernel_rfl
theorem V.b19 : bodyB Try.prog 19 = true := by kernel_rfl
theorem V.b20 : bodyB Try.prog 20 = true := by kernel_rfl
theorem V.b21 : bodyB Try.prog 21 = true := by kernel_rfl
theorem V.b22 : bodyB Try.prog 22 = true := by kernel_rfl
theorem V.b23 : bodyB Try.prog 23 = true := by kernel_rfl
theorem V.b24 : bodyB Try.prog 24 = true := by kernel_rfl
theorem V.b25 : bodyB Try.prog 25 = true := by kernel_rfl
theorem V.b26 : bodyB Try.prog 26 = true := by kernel_rfl
theorem V.b27 : bodyB Try.prog 27 = true := by kernel_rfl
theorem V.b30 : bodyB Try.prog 30 = true := by kernel_rfl
theorem V.b31 : bodyB Try.prog 31 = true := by kernel_rfl
theorem V.b32 : bodyB Try.prog 32 = true := by kernel_rfl
theorem V.b33 : bodyB Try.prog 33 = true := by kernel_rfl
theorem V.b4 : bodyB Try.prog 4 = true := by kernel_rfl
theorem V.b40 : bodyB Try.prog 40 = true := by kernel_rfl
theorem V.b5 : bodyB Try.prog 5 = true := by kernel_rfl
theorem V.b6 : bodyB Try.prog 6 = true := by kernel_rfl
theorem V.b67 : bodyB Try.prog 67 = true := by kernel_rfl
theorem V.b7 : bodyB Try.prog 7 = true := by kernel_rfl
theorem V.b72 : bodyB Try.prog 72 = true := by kernel_rfl
theorem V.b74 : bodyB Try.prog 74 = true := by kernel_rfl
theorem V.b75 : bodyB Try.prog 75 = true := by kernel_rfl
theorem V.b8 : bodyB Try.prog 8 = true := by kernel_rfl
theorem V.b80 : bodyB Try.prog 80 = true := by kernel_rfl
theorem V.b81 : bodyB Try.prog 81 = true := by kernel_rfl
theorem V.b84 : bodyB Try.prog 84 = true := by kernel_rfl
theorem V.b85 : bodyB Try.prog 85 = true := by kernel_rfl
theorem V.b86 : bodyB Try.prog 86 = true := by kernel_rfl
theorem V.b9 : bodyB Try.prog 9 = true := by kernel_rfl
theorem V.c72 : concB Try.prog 72 = true := by kernel_rfl
theorem V.c73 : concB Try.prog 73 = true := by kernel_rfl
theorem V.c74 : concB Try.prog 74 = true := by kernel_rfl
theorem V.f34_0 : fieldB Try.prog 34 0 = some 0 := by kernel_rfl
theorem V.f34_1 : fieldB Try.prog 34 1 = some 1 := by kernel_rfl
theorem V.f34_3 : fieldB Try.prog 34 3 = some 3 := by kernel_rfl
theorem V.f34_4 : fieldB Try.prog 34 4 = some 4 := by kernel_rfl
theorem V.f34_5 : fieldB Try.prog 34 5 = some 5 := by kernel_rfl
theorem V.f42_0 : fieldB Try.prog 42 0 = some 0 := by kernel_rfl
theorem V.f42_1 : fieldB Try.prog 42 1 = some 1 := by kernel_rfl
theorem V.f48_3 : fieldB Try.prog 48 3 = some 3 := by kernel_rfl
theorem V.f51_0 : fieldB Try.prog 51 0 = some 0 := by kernel_rfl
theorem V.f51_1 : fieldB Try.prog 51 1 = some 1 := by kernel_rfl
theorem V.f51_2 : fieldB Try.prog 51 2 = some 2 := by kernel_rfl
theorem V.me72_67 : methB Try.prog 72 "engraver/sniff.begins" = some 67 := by kernel_rfl
theorem V.me73_75 : methB Try.prog 73 "engraver/sniff.begins" = some 75 := by kernel_rfl
theorem V.me74_81 : methB Try.prog 74 "engraver/sniff.begins" = some 81 := by kernel_rfl
theorem V.me74_84 : methB Try.prog 74 "engraver/sniff.least" = some 84 := by kernel_rfl
theorem V.me74_85 : methB Try.prog 74 "engraver/sniff.sides" = some 85 := by kernel_rfl
theorem V.mixed : Try.prog.follows .mixedOrders = true := by kernel_rfl
theorem V.pl34 : placesB Try.prog 34 = some [(0, 1), (1, 1), (2, 1), (3, 1), (4, 1), (5, 1)] := by kernel_rfl
theorem V.pl42 : placesB Try.prog 42 = some [(0, 1), (1, 1)] := by kernel_rfl
theorem V.pl48 : placesB Try.prog 48 = some [(0, 1), (1, 1), (2, 1), (3, 1), (4, 1), (5, 1)] := by kernel_rfl
theorem V.pl51 : placesB Try.prog 51 = some [(0, 1), (1, 1), (2, 1)] := by kernel_rfl
theorem V.pl72 : placesB Try.prog 72 = some [] := by kernel_rfl
theorem V.pl73 : placesB Try.prog 73 = some [] := by kernel_rfl
theorem V.pl74 : placesB Try.prog 74 = some [] := by kernel_rfl
theorem V.s25 : scalarB Try.prog 25 = true := by kernel_rfl
theorem V.s3 : scalarB Try.prog 3 = true := by kernel_rfl
theorem V.s4 : scalarB Try.prog 4 = true := by kernel_rfl
theorem V.s40 : scalarB Try.prog 40 = true := by kernel_rfl
theorem V.s49 : scalarB Try.prog 49 = true := by kernel_rfl
theorem V.s5 : scalarB Try.prog 5 = true := by kernel_rfl
theorem V.s54 : scalarB Try.prog 54 = true := by kernel_rfl
theorem V.sl29 : sliceB Try.prog 29 = some (5, 1, 1) := by kernel_rfl
theorem V.sl37 : sliceB Try.prog 37 = some (3, 1, 8) := by kernel_rfl
theorem V.sl40 : sliceB Try.prog 40 = some (34, 6, 40) := by kernel_rfl
theorem V.sl49 : sliceB Try.prog 49 = some (54, 1, 2) := by kernel_rfl
theorem V.u21 : undB Try.prog 21 = true := by kernel_rfl
theorem V.u3 : undB Try.prog 3 = true := by kernel_rfl
theorem V.u5 : undB Try.prog 5 = true := by kernel_rfl
theorem V.u54 : undB Try.prog 54 = true := by kernel_rfl
theorem V.z3 : zeroB Try.prog 3 = some ([.int .i64 0]) := by kernel_rfl
theorem V.z34 : zeroB Try.prog 34 = some ([.int .i64 0, .int .i64 0, .int .i64 0, .pointer none, .bool false, .bool false]) := by kernel_rfl
theorem V.z42 : zeroB Try.prog 42 = some ([.slice none 0 0, .int .i64 0]) := by kernel_rfl
theorem V.z48 : zeroB Try.prog 48 = some ([.slice none 0 0, .slice none 0 0, .int .i64 0, .int .i64 0, .int .i64 0, .int .i64 0]) := by kernel_rfl
theorem V.z5 : zeroB Try.prog 5 = some ([.int .u8 0]) := by kernel_rfl
theorem V.z51 : zeroB Try.prog 51 = some ([.int .i64 0, .int .i64 0, .slice none 0 0]) := by kernel_rfl
theorem V.z54 : zeroB Try.prog 54 = some ([.int .u16 0]) := by kernel_rfl
theorem V.z72 : zeroB Try.prog 72 = some ([]) := by kernel_rfl
theorem V.z73 : zeroB Try.prog 73 = some ([]) := by kernel_rfl
theorem V.z74 : zeroB Try.prog 74 = some ([]) := by kernel_rfl
end Go.Proofs.Ytgpfhkbolhpoiaa
