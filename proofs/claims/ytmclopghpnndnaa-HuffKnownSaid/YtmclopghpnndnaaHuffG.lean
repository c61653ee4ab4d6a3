/-
  Steps of the proof: walks of functions that the statement reaches; printed by a program of ours.
-/
import Derived.Test.YtmclopghpnndnaaHuffF
import Derived.Test.YtmclopghpnndnaaM26
namespace Go.Proofs.Ytmclopghpnndnaa
open Go.Sl 
set_option linter.unusedVariables false
set_option linter.unusedSimpArgs false

attribute [local irreducible] HuffP.newE HuffP.lkW HuffP.lkN HuffP.lkB HuffP.ord HuffP.words HuffP.cntL HuffP.mostL

end Go.Proofs.Ytmclopghpnndnaa
