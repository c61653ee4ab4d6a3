/-
  Steps of the proof: walks of functions that the statement reaches; printed by a program of ours.
-/
import Derived.Test.YtmclopghpnndnaaM46
namespace Go.Proofs.Ytmclopghpnndnaa
open Go.Sl 
set_option linter.unusedVariables false
set_option linter.unusedSimpArgs false

end Go.Proofs.Ytmclopghpnndnaa
