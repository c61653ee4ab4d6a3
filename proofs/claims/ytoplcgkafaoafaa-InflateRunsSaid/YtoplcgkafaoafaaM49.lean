/- Steps of the proof: the walks of the functions that the statement reaches; printed by a program of ours. -/
import Derived.Test.YtoplcgkafaoafaaM39
/-
  With more room, with less; streams that go on alike, or are cut.
-/
namespace Go.InfP
set_option linter.unusedVariables false
open Go.BitP Go.HuffP
set_option linter.unusedVariables false
set_option linter.unusedSimpArgs false
/-! ### Room -/
section
variable {B : List Int} {mo mo' y : Int} {s s2 : St}
end
end Go.InfP

/-
  Stored blocks: how they are written, how they are read.
-/
namespace Go.InfP
open Go.BitP Go.HuffP
set_option linter.unusedVariables false
set_option linter.unusedSimpArgs false
section
variable {B : List Int}
/-- A block's head and its bytes. -/
def blkB (la : Int) (X : List Int) : List Int := [la, (X.length : Int) % 256, (X.length : Int) / 256, 255 - (X.length : Int) % 256, 255 - (X.length : Int) / 256] ++ X
/-- Blocks one after another; the last one says so. -/
def blks : List (List Int) → List Int
  | [] => []
  | [X] => blkB 1 X
  | X :: Y :: L => blkB 0 X ++ blks (Y :: L)
theorem getD_app (a b : List Int) (i : Nat) (h : i < a.length) : (a ++ b).getD i 0 = a.getD i 0 := by
  rw [List.getD_eq_getElem?_getD, List.getElem?_append_left h, ← List.getD_eq_getElem?_getD]
theorem getD_app2 (a b : List Int) (i : Nat) : (a ++ b).getD (a.length + i) 0 = b.getD i 0 := by
  rw [List.getD_eq_getElem?_getD, List.getElem?_append_right (by omega), Nat.add_sub_cancel_left, ← List.getD_eq_getElem?_getD]
end
/-- The first blocks, as they are written. -/
def blkI (L : List (List Int)) : Nat → List Int
  | 0 => []
  | i + 1 => blkI L i ++ blkB (if i + 1 = L.length then 1 else 0) (L.getD i [])
end Go.InfP
namespace Go.InfP
open Go.BitP Go.HuffP
set_option linter.unusedVariables false
/-- So far the rows are short. -/
structure Bk (L : List (List Int)) (i : Nat) : Prop where
  le : i ≤ L.length
  few : ∀ j, j < i → (L.getD j []).length ≤ 1000
  byt : ∀ j, j < i → Byt (L.getD j [])
  wlen : (L.take i).flatten.length ≤ 1000 * i
  blen : (blkI L i).length ≤ 1005 * i
end Go.InfP
