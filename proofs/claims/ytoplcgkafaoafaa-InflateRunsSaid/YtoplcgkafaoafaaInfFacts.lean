/-
 Facts about the types of the program; printed by a program of ours.
-/
import Derived.Test.YtoplcgkafaoafaaProg
import Derived.KernelRfl
import Derived.Test.YtoplcgkafaoafaaSl20
namespace Go.Proofs.Ytoplcgkafaoafaa
open Go.Sl
theorem V.a107 : aggB Try.prog 107 = some 2 := by kernel_rfl
theorem V.a81 : aggB Try.prog 81 = some 0 := by kernel_rfl
theorem V.a82 : aggB Try.prog 82 = some 0 := by kernel_rfl
theorem V.a85 : aggB Try.prog 85 = some 16 := by kernel_rfl
theorem V.a92 : aggB Try.prog 92 = some 2 := by kernel_rfl
theorem V.ar85 : arrayB Try.prog 85 = some (16, 3, 1) := by kernel_rfl
theorem V.ar92 : arrayB Try.prog 92 = some (2, 3, 1) := by kernel_rfl
theorem V.b10 : bodyB Try.prog 10 = true := by kernel_rfl
theorem V.b11 : bodyB Try.prog 11 = true := by kernel_rfl
theorem V.b13 : bodyB Try.prog 13 = true := by kernel_rfl
theorem V.b14 : bodyB Try.prog 14 = true := by kernel_rfl
theorem V.b15 : bodyB Try.prog 15 = true := by kernel_rfl
theorem V.b16 : bodyB Try.prog 16 = true := by kernel_rfl
theorem V.b17 : bodyB Try.prog 17 = true := by kernel_rfl
theorem V.b18 : bodyB Try.prog 18 = true := by kernel_rfl
theorem V.b19 : bodyB Try.prog 19 = true := by kernel_rfl
theorem V.b20 : bodyB Try.prog 20 = true := by kernel_rfl
theorem V.b21 : bodyB Try.prog 21 = true := by kernel_rfl
theorem V.b28 : bodyB Try.prog 28 = true := by kernel_rfl
theorem V.b29 : bodyB Try.prog 29 = true := by kernel_rfl
theorem V.b30 : bodyB Try.prog 30 = true := by kernel_rfl
theorem V.b31 : bodyB Try.prog 31 = true := by kernel_rfl
theorem V.b32 : bodyB Try.prog 32 = true := by kernel_rfl
theorem V.b33 : bodyB Try.prog 33 = true := by kernel_rfl
theorem V.b40 : bodyB Try.prog 40 = true := by kernel_rfl
theorem V.b41 : bodyB Try.prog 41 = true := by kernel_rfl
theorem V.b42 : bodyB Try.prog 42 = true := by kernel_rfl
theorem V.b43 : bodyB Try.prog 43 = true := by kernel_rfl
theorem V.b44 : bodyB Try.prog 44 = true := by kernel_rfl
theorem V.b45 : bodyB Try.prog 45 = true := by kernel_rfl
theorem V.b46 : bodyB Try.prog 46 = true := by kernel_rfl
theorem V.b47 : bodyB Try.prog 47 = true := by kernel_rfl
theorem V.b48 : bodyB Try.prog 48 = true := by kernel_rfl
theorem V.b49 : bodyB Try.prog 49 = true := by kernel_rfl
theorem V.b50 : bodyB Try.prog 50 = true := by kernel_rfl
theorem V.b51 : bodyB Try.prog 51 = true := by kernel_rfl
theorem V.b52 : bodyB Try.prog 52 = true := by kernel_rfl
theorem V.b53 : bodyB Try.prog 53 = true := by kernel_rfl
theorem V.b54 : bodyB Try.prog 54 = true := by kernel_rfl
theorem V.b55 : bodyB Try.prog 55 = true := by kernel_rfl
theorem V.b56 : bodyB Try.prog 56 = true := by kernel_rfl
theorem V.b57 : bodyB Try.prog 57 = true := by kernel_rfl
theorem V.b58 : bodyB Try.prog 58 = true := by kernel_rfl
theorem V.b59 : bodyB Try.prog 59 = true := by kernel_rfl
theorem V.b60 : bodyB Try.prog 60 = true := by kernel_rfl
theorem V.b61 : bodyB Try.prog 61 = true := by kernel_rfl
theorem V.b62 : bodyB Try.prog 62 = true := by kernel_rfl
theorem V.b63 : bodyB Try.prog 63 = true := by kernel_rfl
theorem V.b64 : bodyB Try.prog 64 = true := by kernel_rfl
theorem V.b65 : bodyB Try.prog 65 = true := by kernel_rfl
theorem V.b66 : bodyB Try.prog 66 = true := by kernel_rfl
theorem V.b67 : bodyB Try.prog 67 = true := by kernel_rfl
theorem V.b68 : bodyB Try.prog 68 = true := by kernel_rfl
theorem V.b69 : bodyB Try.prog 69 = true := by kernel_rfl
theorem V.b70 : bodyB Try.prog 70 = true := by kernel_rfl
theorem V.c24 : concB Try.prog 24 = true := by kernel_rfl
theorem V.c81 : concB Try.prog 81 = true := by kernel_rfl
theorem V.c82 : concB Try.prog 82 = true := by kernel_rfl
theorem V.f100_0 : fieldB Try.prog 100 0 = some 0 := by kernel_rfl
theorem V.f100_1 : fieldB Try.prog 100 1 = some 1 := by kernel_rfl
theorem V.f100_2 : fieldB Try.prog 100 2 = some 17 := by kernel_rfl
theorem V.f100_3 : fieldB Try.prog 100 3 = some 18 := by kernel_rfl
theorem V.f43_0 : fieldB Try.prog 43 0 = some 0 := by kernel_rfl
theorem V.f43_1 : fieldB Try.prog 43 1 = some 1 := by kernel_rfl
theorem V.f67_0 : fieldB Try.prog 67 0 = some 0 := by kernel_rfl
theorem V.f67_1 : fieldB Try.prog 67 1 = some 1 := by kernel_rfl
theorem V.f67_10 : fieldB Try.prog 67 10 = some 10 := by kernel_rfl
theorem V.f67_11 : fieldB Try.prog 67 11 = some 11 := by kernel_rfl
theorem V.f67_12 : fieldB Try.prog 67 12 = some 12 := by kernel_rfl
theorem V.f67_2 : fieldB Try.prog 67 2 = some 2 := by kernel_rfl
theorem V.f67_3 : fieldB Try.prog 67 3 = some 3 := by kernel_rfl
theorem V.f67_4 : fieldB Try.prog 67 4 = some 4 := by kernel_rfl
theorem V.f67_5 : fieldB Try.prog 67 5 = some 5 := by kernel_rfl
theorem V.f67_6 : fieldB Try.prog 67 6 = some 6 := by kernel_rfl
theorem V.f67_7 : fieldB Try.prog 67 7 = some 7 := by kernel_rfl
theorem V.f67_8 : fieldB Try.prog 67 8 = some 8 := by kernel_rfl
theorem V.f67_9 : fieldB Try.prog 67 9 = some 9 := by kernel_rfl
theorem V.f77_0 : fieldB Try.prog 77 0 = some 0 := by kernel_rfl
theorem V.f77_2 : fieldB Try.prog 77 2 = some 2 := by kernel_rfl
theorem V.f79_0 : fieldB Try.prog 79 0 = some 0 := by kernel_rfl
theorem V.mixed : Try.prog.follows .mixedOrders = true := by kernel_rfl
theorem V.pl100 : placesB Try.prog 100 = some [(0, 1), (1, 16), (17, 1), (18, 1)] := by kernel_rfl
theorem V.pl107 : placesB Try.prog 107 = some [(0, 1), (1, 1)] := by kernel_rfl
theorem V.pl43 : placesB Try.prog 43 = some [(0, 1), (1, 1)] := by kernel_rfl
theorem V.pl67 : placesB Try.prog 67 = some [(0, 1), (1, 1), (2, 1), (3, 1), (4, 1), (5, 1), (6, 1), (7, 1), (8, 1), (9, 1), (10, 1), (11, 1), (12, 1)] := by kernel_rfl
theorem V.pl77 : placesB Try.prog 77 = some [(0, 1), (1, 1), (2, 1), (3, 1)] := by kernel_rfl
theorem V.pl79 : placesB Try.prog 79 = some [(0, 4)] := by kernel_rfl
theorem V.pl81 : placesB Try.prog 81 = some [] := by kernel_rfl
theorem V.pl82 : placesB Try.prog 82 = some [] := by kernel_rfl
theorem V.s22 : scalarB Try.prog 22 = true := by kernel_rfl
theorem V.s24 : scalarB Try.prog 24 = true := by kernel_rfl
theorem V.s3 : scalarB Try.prog 3 = true := by kernel_rfl
theorem V.s30 : scalarB Try.prog 30 = true := by kernel_rfl
theorem V.s31 : scalarB Try.prog 31 = true := by kernel_rfl
theorem V.s4 : scalarB Try.prog 4 = true := by kernel_rfl
theorem V.s5 : scalarB Try.prog 5 = true := by kernel_rfl
theorem V.s63 : scalarB Try.prog 63 = true := by kernel_rfl
theorem V.s65 : scalarB Try.prog 65 = true := by kernel_rfl
theorem V.s98 : scalarB Try.prog 98 = true := by kernel_rfl
theorem V.sl22 : sliceB Try.prog 22 = some (5, 1, 1) := by kernel_rfl
theorem V.sl30 : sliceB Try.prog 30 = some (3, 1, 8) := by kernel_rfl
theorem V.sl93 : sliceB Try.prog 93 = some (92, 2, 16) := by kernel_rfl
theorem V.sl98 : sliceB Try.prog 98 = some (107, 2, 16) := by kernel_rfl
theorem V.u3 : undB Try.prog 3 = true := by kernel_rfl
theorem V.u39 : undB Try.prog 39 = true := by kernel_rfl
theorem V.u5 : undB Try.prog 5 = true := by kernel_rfl
theorem V.z100 : zeroB Try.prog 100 = some ([.slice none 0 0, .int .i64 0, .int .i64 0, .int .i64 0, .int .i64 0, .int .i64 0, .int .i64 0, .int .i64 0, .int .i64 0, .int .i64 0, .int .i64 0, .int .i64 0, .int .i64 0, .int .i64 0, .int .i64 0, .int .i64 0, .int .i64 0, .slice none 0 0, .int .i64 0]) := by kernel_rfl
theorem V.z107 : zeroB Try.prog 107 = some ([.int .i64 0, .int .i64 0]) := by kernel_rfl
theorem V.z24 : zeroB Try.prog 24 = some ([.int .i64 0]) := by kernel_rfl
theorem V.z3 : zeroB Try.prog 3 = some ([.int .i64 0]) := by kernel_rfl
theorem V.z43 : zeroB Try.prog 43 = some ([.slice none 0 0, .bool false]) := by kernel_rfl
theorem V.z5 : zeroB Try.prog 5 = some ([.int .u8 0]) := by kernel_rfl
theorem V.z67 : zeroB Try.prog 67 = some ([.pointer none, .int .i64 0, .int .i64 0, .slice none 0 0, .bool false, .int .i64 0, .int .i64 0, .int .i64 0, .bool false, .pointer none, .pointer none, .int .i64 0, .int .i64 0]) := by kernel_rfl
theorem V.z77 : zeroB Try.prog 77 = some ([.slice none 0 0, .slice none 0 0, .int .i64 0, .int .i64 0]) := by kernel_rfl
theorem V.z79 : zeroB Try.prog 79 = some ([.slice none 0 0, .slice none 0 0, .int .i64 0, .int .i64 0]) := by kernel_rfl
theorem V.z81 : zeroB Try.prog 81 = some ([]) := by kernel_rfl
theorem V.z82 : zeroB Try.prog 82 = some ([]) := by kernel_rfl
theorem V.z92 : zeroB Try.prog 92 = some ([.int .i64 0, .int .i64 0]) := by kernel_rfl
end Go.Proofs.Ytoplcgkafaoafaa
