/-
  What the store's walks have in memory; printed by a program of ours.
-/
import Derived.Test.YtgpfhkbolhpoiaaStorePlain
namespace Go.Sl
open Go.StoreP
set_option linter.unusedVariables false
abbrev I3 : Ec Int := ecI 3 .i64
abbrev U5 : Ec Int := ecI 5 .u8
abbrev U16 : Ec Int := ecI 54 .u16
abbrev IT : Ec It := ⟨34, 6, enc, It.nil, fun _ => rfl, fun _ => rfl⟩
/-- The store: its items, the last handle. -/
def IsStore (b : Nat) (l : List It) (last : Int) : HProp := fun w0 h => ∃ i : Option Addr × Nat, True ∧ sats w0 [Cel b 42 [.slice i.1 l.length i.2, .int .i64 last], Row IT i.1 l.length i.2 l] h
theorem st_close {b n c : Nat} {p : Option Addr} {l : List It} {last : Int} {w0 : World} {h : Hp} (hn : n = l.length) (hh : sats w0 [Cel b 42 [.slice p n c, .int .i64 last], Row IT p n c l] h) : IsStore b l last w0 h := by
  subst hn; exact ⟨⟨p, c⟩, trivial, hh⟩
/-- A job that waits. -/
def IsJob (b : Nat) : HProp := fun w0 h => ∃ i : Option Addr × Nat, True ∧ sats w0 [Cel b 48 [.slice i.1 126 i.2, .slice none 0 0, .int .i64 1, .int .i64 0, .int .i64 198, .int .i64 0]] h
end Go.Sl
