/-
  Facts about the types of the program, continued; printed by a program of ours.
-/
import Derived.Test.YtmclopghpnndnaaHuffFacts3
import Derived.Test.YtmclopghpnndnaaSl20
namespace Go.Proofs.Ytmclopghpnndnaa
open Go.Sl
theorem V.b24 : bodyB Try.prog 24 = true := by kernel_rfl
end Go.Proofs.Ytmclopghpnndnaa
