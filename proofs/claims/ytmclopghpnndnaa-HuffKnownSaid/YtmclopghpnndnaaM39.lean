/- Steps of the proof: the walks of the functions that the statement reaches; printed by a program of ours. -/
import Derived.Test.YtmclopghpnndnaaM37
import Derived.Test.YtmclopghpnndnaaHuffC
/-
  The document's code in memory; its lists.
-/
namespace Go.Sl
def RC (b : Nat) (ls : List Int) : HProp := fun w0 h => ∃ i : Cv, True ∧ sats w0 [Cel b 65 (CA [] .i64 (HuffP.cntL ls) [.slice i.p1 (HuffP.ord ls).length i.c1, .slice i.p2 ls.length i.c2]), Row I3 i.p1 (HuffP.ord ls).length i.c1 (HuffP.ord ls), Row I3 i.p2 ls.length i.c2 ls] h
end Go.Sl

/-
  Steps of the proof: walks of functions that the statement reaches; printed by a program of ours.
-/
namespace Go.Proofs.Ytmclopghpnndnaa
open Go.Sl 
set_option linter.unusedVariables false
set_option linter.unusedSimpArgs false

attribute [local irreducible] HuffP.ord HuffP.wordsK HuffP.posn HuffP.cntL HuffP.mostL HuffP.words HuffP.wordOf HuffP.lenOf HuffP.newE HuffP.wholeB
attribute [local irreducible] HuffP.cntZ HuffP.sy

end Go.Proofs.Ytmclopghpnndnaa
