/-
  Facts about the types of the program, continued; printed by a program of ours.
-/
import Derived.Test.YtmclopghpnndnaaHuffFacts
import Derived.Test.YtmclopghpnndnaaSl20
namespace Go.Proofs.Ytmclopghpnndnaa
open Go.Sl
end Go.Proofs.Ytmclopghpnndnaa
