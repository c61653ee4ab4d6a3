/-
  Codes in memory.
-/
import Derived.Test.YtmclopghpnndnaaHuffBase
import Derived.Test.YtmclopghpnndnaaM26
import Derived.Test.YtmclopghpnndnaaSl19
namespace Go.Sl
abbrev W63 : Ec (Int × Int) := ⟨63, 2, fun x => [.int .i64 x.1, .int .i64 x.2], (0, 0), fun _ => rfl, fun _ => rfl⟩
structure Cv where
  p1 : Option Addr
  c1 : Nat
  p2 : Option Addr
  c2 : Nat
/-- A code as 'huff' keeps it. -/
def HC (b : Nat) (ls : List Int) : HProp := fun w0 h => ∃ i : Cv, True ∧ sats w0 [Cel b 58 (CA [.slice i.p1 ls.length i.c1] .i64 (HuffP.cntL ls) [.slice i.p2 (HuffP.ord ls).length i.c2, .int .i64 (HuffP.mostL ls)]), Row W63 i.p1 ls.length i.c1 (HuffP.words ls), Row I3 i.p2 (HuffP.ord ls).length i.c2 (HuffP.ord ls)] h
theorem hc_close {b c1 c2 : Nat} {p1 p2 : Option Addr} {ls : List Int} {ws : List (Int × Int)} {w0 : World} {h : Hp} (e : ws = HuffP.words ls)
    (hh : sats w0 [Cel b 58 (CA [.slice p1 ls.length c1] .i64 (HuffP.cntL ls) [.slice p2 (HuffP.ord ls).length c2, .int .i64 (HuffP.mostL ls)]), Row W63 p1 ls.length c1 ws, Row I3 p2 (HuffP.ord ls).length c2 (HuffP.ord ls)] h) : HC b ls w0 h := by
  subst e; exact ⟨⟨p1, c1, p2, c2⟩, trivial, hh⟩
end Go.Sl
