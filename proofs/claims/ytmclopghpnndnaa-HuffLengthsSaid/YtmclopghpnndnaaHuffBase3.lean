/-
  The document's code in memory; its lists.
-/
import Derived.Test.YtmclopghpnndnaaHuffBase2
namespace Go.Sl
def RC (b : Nat) (ls : List Int) : HProp := fun w0 h => ∃ i : Cv, True ∧ sats w0 [Cel b 65 (CA [] .i64 (HuffP.cntL ls) [.slice i.p1 (HuffP.ord ls).length i.c1, .slice i.p2 ls.length i.c2]), Row I3 i.p1 (HuffP.ord ls).length i.c1 (HuffP.ord ls), Row I3 i.p2 ls.length i.c2 ls] h
theorem rc_close {b c1 c2 : Nat} {p1 p2 : Option Addr} {ls : List Int} {w0 : World} {h : Hp}
    (hh : sats w0 [Cel b 65 (CA [] .i64 (HuffP.cntL ls) [.slice p1 (HuffP.ord ls).length c1, .slice p2 ls.length c2]), Row I3 p1 (HuffP.ord ls).length c1 (HuffP.ord ls), Row I3 p2 ls.length c2 ls] h) : RC b ls w0 h := ⟨⟨p1, c1, p2, c2⟩, trivial, hh⟩
end Go.Sl
