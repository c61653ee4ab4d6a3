/-
  Steps of the proof: walks of functions that the statement reaches; printed by a program of ours.
-/
import Derived.Test.YtmclopghpnndnaaHuffD
import Derived.Test.YtmclopghpnndnaaHuffBase4
namespace Go.Proofs.Ytmclopghpnndnaa
open Go.Sl 
set_option linter.unusedVariables false
set_option linter.unusedSimpArgs false

attribute [local irreducible] HuffP.ord HuffP.wordsK HuffP.posn HuffP.cntL HuffP.mostL HuffP.words HuffP.wordOf HuffP.lenOf HuffP.newE HuffP.left HuffP.wholeB
attribute [local irreducible] HuffP.wd HuffP.lkW HuffP.lkN HuffP.lkB HuffP.cls HuffP.off

end Go.Proofs.Ytmclopghpnndnaa
