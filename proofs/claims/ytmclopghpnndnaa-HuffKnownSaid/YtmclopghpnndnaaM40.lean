/- Steps of the proof: the walks of the functions that the statement reaches; printed by a program of ours. -/
import Derived.Test.YtmclopghpnndnaaM39
/-
  (what stood here stands in HuffPlain2b)
-/

/-
  Steps of the proof: walks of functions that the statement reaches; printed by a program of ours.
-/
namespace Go.Proofs.Ytmclopghpnndnaa
open Go.Sl 
set_option linter.unusedVariables false
set_option linter.unusedSimpArgs false

attribute [local irreducible] HuffP.ord HuffP.wordsK HuffP.posn HuffP.cntL HuffP.mostL HuffP.words HuffP.wordOf HuffP.lenOf HuffP.newE HuffP.left HuffP.wholeB
attribute [local irreducible] HuffP.wd HuffP.lkW HuffP.lkN HuffP.lkB HuffP.cls HuffP.off

end Go.Proofs.Ytmclopghpnndnaa
