/-
  Facts about the types of the program, continued; printed by a program of ours.
-/
import Derived.Test.YtmclopghpnndnaaM29
import Derived.Test.YtmclopghpnndnaaSl20
namespace Go.Proofs.Ytmclopghpnndnaa
open Go.Sl
theorem V.b24 : bodyB Try.prog 24 = true := by kernel_rfl
theorem V.b25 : bodyB Try.prog 25 = true := by kernel_rfl
theorem V.b26 : bodyB Try.prog 26 = true := by kernel_rfl
theorem V.b27 : bodyB Try.prog 27 = true := by kernel_rfl
end Go.Proofs.Ytmclopghpnndnaa
