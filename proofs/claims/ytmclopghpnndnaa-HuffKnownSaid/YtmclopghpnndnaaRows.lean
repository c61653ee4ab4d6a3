/-
  No cell of these rows narrows 'for every input' (looked for: loops, veiled, ifaces, maps, wideKeys, modest, calm, conditions, laid).
  DERIVED. THE GIVEN ROWS OF THIS SEAT. 6 by the template 'for every input the law returns true; each argument reads behind the call as it read before'; 0 by the template 'total and deterministic' (their statements: YtmclopghpnndnaaTotals.lean).
  GIVEN WITH THE SEED: the statements are not yours to turn. If you find one false, say at which input.
  Laid BY PROGRAM, IN A SANDBOX (cutbox-rows.mjs): the forced cells as the released guide's own fill.sh prints them over the translation a4bb48b9e1a52c4b… (all of the seat's roots in one cut). By AI agents, Wed Nov 11 2026. No macro, syntax, notation, axiom, sorry.
-/
import Derived.Test.YtmclopghpnndnaaChecked
import GoSem.Claim
import GoSem.ClaimJoined
import GoSem.ClaimMapViews
import Derived.JoinedTies
import Derived.KernelRfl
namespace Go.Proofs.Ytmclopghpnndnaa
/- THE CELL 'sum', in the pinned program and in every row, IS THE sha256 OF THE DUMP (.gsa) THAT YtmclopghpnndnaaProg.lean LOADS. Nothing in Lean hashes anything: it is a label: what it is worth is what the hold of that sum in a sandbox is worth. -/
noncomputable def Try.pinned : Pinned := { name := "ytmclopghpnndnaa", sum := "a4bb48b9e1a52c4bd27e0882543c9d56d4add7e162fdf964ca0b2f0deb95d875", checked := Try.checked }
namespace Rows
def none {H : Type} : Left H := { results := [], args := [] }

/-- 'engraverlaw3.HuffCodes': WHATEVER THE INPUT: true; the input reads as it did. -/
def huffCodesSpec : ChangeSpec := { name := "huffCodes", fn := fun _ => fun
  | [d] => { results := [.lit (.bool true)], args := [d] }
  | _ => none }
def huffCodesRow : OpenClaim := { program := "ytmclopghpnndnaa", sum := "a4bb48b9e1a52c4bd27e0882543c9d56d4add7e162fdf964ca0b2f0deb95d875", func := "engraver/engraverlaw3.HuffCodes", spec := "huffCodes", unfollowed := true, recurses := true, apart := false }
def HuffCodesSaid : Prop := huffCodesRow.holds Try.pinned (OpenSpec.ofChange huffCodesSpec)

/-- ITS FALSE NEIGHBOUR: 'it returns false'. Refute it at one input. -/
def huffCodesWrong : ChangeSpec := { name := "huffCodes", fn := fun _ => fun
  | [d] => { results := [.lit (.bool false)], args := [d] }
  | _ => none }
def HuffCodesWrongFalsely : Prop := huffCodesRow.holds Try.pinned (OpenSpec.ofChange huffCodesWrong)

/-- 'engraverlaw3.HuffPrefix': WHATEVER THE INPUT: true; the input reads as it did. -/
def huffPrefixSpec : ChangeSpec := { name := "huffPrefix", fn := fun _ => fun
  | [d] => { results := [.lit (.bool true)], args := [d] }
  | _ => none }
def huffPrefixRow : OpenClaim := { program := "ytmclopghpnndnaa", sum := "a4bb48b9e1a52c4bd27e0882543c9d56d4add7e162fdf964ca0b2f0deb95d875", func := "engraver/engraverlaw3.HuffPrefix", spec := "huffPrefix", unfollowed := true, recurses := true, apart := false }
def HuffPrefixSaid : Prop := huffPrefixRow.holds Try.pinned (OpenSpec.ofChange huffPrefixSpec)

/-- ITS FALSE NEIGHBOUR: 'it returns false'. Refute it at one input. -/
def huffPrefixWrong : ChangeSpec := { name := "huffPrefix", fn := fun _ => fun
  | [d] => { results := [.lit (.bool false)], args := [d] }
  | _ => none }
def HuffPrefixWrongFalsely : Prop := huffPrefixRow.holds Try.pinned (OpenSpec.ofChange huffPrefixWrong)

/-- 'engraverlaw3.HuffTakes': WHATEVER THE INPUT: true; the input reads as it did. -/
def huffTakesSpec : ChangeSpec := { name := "huffTakes", fn := fun _ => fun
  | [d1, d2] => { results := [.lit (.bool true)], args := [d1, d2] }
  | _ => none }
def huffTakesRow : OpenClaim := { program := "ytmclopghpnndnaa", sum := "a4bb48b9e1a52c4bd27e0882543c9d56d4add7e162fdf964ca0b2f0deb95d875", func := "engraver/engraverlaw3.HuffTakes", spec := "huffTakes", unfollowed := true, recurses := true, apart := false }
def HuffTakesSaid : Prop := huffTakesRow.holds Try.pinned (OpenSpec.ofChange huffTakesSpec)

/-- ITS FALSE NEIGHBOUR: 'it returns false'. Refute it at one input. -/
def huffTakesWrong : ChangeSpec := { name := "huffTakes", fn := fun _ => fun
  | [d1, d2] => { results := [.lit (.bool false)], args := [d1, d2] }
  | _ => none }
def HuffTakesWrongFalsely : Prop := huffTakesRow.holds Try.pinned (OpenSpec.ofChange huffTakesWrong)

/-- 'engraverlaw3.HuffBack': WHATEVER THE INPUT: true; the input reads as it did. -/
def huffBackSpec : ChangeSpec := { name := "huffBack", fn := fun _ => fun
  | [d1, d2] => { results := [.lit (.bool true)], args := [d1, d2] }
  | _ => none }
def huffBackRow : OpenClaim := { program := "ytmclopghpnndnaa", sum := "a4bb48b9e1a52c4bd27e0882543c9d56d4add7e162fdf964ca0b2f0deb95d875", func := "engraver/engraverlaw3.HuffBack", spec := "huffBack", unfollowed := true, recurses := true, apart := false }
def HuffBackSaid : Prop := huffBackRow.holds Try.pinned (OpenSpec.ofChange huffBackSpec)

/-- ITS FALSE NEIGHBOUR: 'it returns false'. Refute it at one input. -/
def huffBackWrong : ChangeSpec := { name := "huffBack", fn := fun _ => fun
  | [d1, d2] => { results := [.lit (.bool false)], args := [d1, d2] }
  | _ => none }
def HuffBackWrongFalsely : Prop := huffBackRow.holds Try.pinned (OpenSpec.ofChange huffBackWrong)

/-- 'engraverlaw3.HuffLengths': WHATEVER THE INPUT: true; the input reads as it did. -/
def huffLengthsSpec : ChangeSpec := { name := "huffLengths", fn := fun _ => fun
  | [d1, d2] => { results := [.lit (.bool true)], args := [d1, d2] }
  | _ => none }
def huffLengthsRow : OpenClaim := { program := "ytmclopghpnndnaa", sum := "a4bb48b9e1a52c4bd27e0882543c9d56d4add7e162fdf964ca0b2f0deb95d875", func := "engraver/engraverlaw3.HuffLengths", spec := "huffLengths", unfollowed := true, recurses := true, apart := false }
def HuffLengthsSaid : Prop := huffLengthsRow.holds Try.pinned (OpenSpec.ofChange huffLengthsSpec)

/-- ITS FALSE NEIGHBOUR: 'it returns false'. Refute it at one input. -/
def huffLengthsWrong : ChangeSpec := { name := "huffLengths", fn := fun _ => fun
  | [d1, d2] => { results := [.lit (.bool false)], args := [d1, d2] }
  | _ => none }
def HuffLengthsWrongFalsely : Prop := huffLengthsRow.holds Try.pinned (OpenSpec.ofChange huffLengthsWrong)

/-- 'engraverlaw3.HuffKnown': WHATEVER THE INPUT: true; the input reads as it did. -/
def huffKnownSpec : ChangeSpec := { name := "huffKnown", fn := fun _ => fun
  | [] => { results := [.lit (.bool true)], args := [] }
  | _ => none }
def huffKnownRow : OpenClaim := { program := "ytmclopghpnndnaa", sum := "a4bb48b9e1a52c4bd27e0882543c9d56d4add7e162fdf964ca0b2f0deb95d875", func := "engraver/engraverlaw3.HuffKnown", spec := "huffKnown", unfollowed := true, recurses := true, apart := false }
def HuffKnownSaid : Prop := huffKnownRow.holds Try.pinned (OpenSpec.ofChange huffKnownSpec)

/-- ITS FALSE NEIGHBOUR: 'it returns false'. Refute it at one input. -/
def huffKnownWrong : ChangeSpec := { name := "huffKnown", fn := fun _ => fun
  | [] => { results := [.lit (.bool false)], args := [] }
  | _ => none }
def HuffKnownWrongFalsely : Prop := huffKnownRow.holds Try.pinned (OpenSpec.ofChange huffKnownWrong)

/- THE SECOND FORM. 'bulk': how many values and letters a reading holds, each counted each time it is reached (what is shared counts as often as it is met; a slice's spare places count too). A statement '..UptoSaid' is the law's where the arguments, and the package variables that the reading takes, are together of bulk at most 1048576: NARROWER than '..Said'. Prove '..Said' where nothing that the law and all that it calls make is longer than what came in: it says more and counts as full. Else prove '..UptoSaid'. A law counts once. -/
mutual
def uptoBulk {H : Type} : DataW H → Nat
  | .lit (.string bytes) => bytes.length + 1
  | .lit _ => 1
  | .nil => 1
  | .ptr d => uptoBulk d + 1
  | .slice elems spare => uptoBulkAll elems + uptoBulkAll spare + 1
  | .agg parts => uptoBulkAll parts + 1
  | .iface _ d => uptoBulk d + 1
  | .map entries => uptoBulkEntries entries + 1
  | .held _ => 1
def uptoBulkAll {H : Type} : List (DataW H) → Nat
  | [] => 0
  | d :: r => uptoBulk d + uptoBulkAll r
def uptoBulkEntries {H : Type} : List (Lit × DataW H) → Nat
  | [] => 0
  | x :: r => uptoBulkEntry x + uptoBulkEntries r
def uptoBulkEntry {H : Type} : Lit × DataW H → Nat
  | (.string bytes, d) => bytes.length + uptoBulk d + 1
  | (_, d) => uptoBulk d + 1
 end
def uptoSmall : (H : Type) → List (DataW H) → Bool := fun _ ds => decide (uptoBulkAll ds ≤ 1048576)
def OpenSpec.upto (s : _root_.Go.ChangeSpec) : _root_.Go.OpenSpec := { _root_.Go.OpenSpec.ofChange s with cond := some uptoSmall }

/-- 'engraverlaw3.HuffCodes', WHERE WHAT IT READS IS OF BULK AT MOST 1048576: true; the input reads as it did. -/
def huffCodesUptoRow : OpenClaim := { program := "ytmclopghpnndnaa", sum := "a4bb48b9e1a52c4bd27e0882543c9d56d4add7e162fdf964ca0b2f0deb95d875", func := "engraver/engraverlaw3.HuffCodes", spec := "huffCodes", unfollowed := true, recurses := true, apart := false, narrowed := true }
def HuffCodesUptoSaid : Prop := huffCodesUptoRow.holds Try.pinned (OpenSpec.upto huffCodesSpec)

/-- 'engraverlaw3.HuffPrefix', WHERE WHAT IT READS IS OF BULK AT MOST 1048576: true; the input reads as it did. -/
def huffPrefixUptoRow : OpenClaim := { program := "ytmclopghpnndnaa", sum := "a4bb48b9e1a52c4bd27e0882543c9d56d4add7e162fdf964ca0b2f0deb95d875", func := "engraver/engraverlaw3.HuffPrefix", spec := "huffPrefix", unfollowed := true, recurses := true, apart := false, narrowed := true }
def HuffPrefixUptoSaid : Prop := huffPrefixUptoRow.holds Try.pinned (OpenSpec.upto huffPrefixSpec)

/-- 'engraverlaw3.HuffTakes', WHERE WHAT IT READS IS OF BULK AT MOST 1048576: true; the input reads as it did. -/
def huffTakesUptoRow : OpenClaim := { program := "ytmclopghpnndnaa", sum := "a4bb48b9e1a52c4bd27e0882543c9d56d4add7e162fdf964ca0b2f0deb95d875", func := "engraver/engraverlaw3.HuffTakes", spec := "huffTakes", unfollowed := true, recurses := true, apart := false, narrowed := true }
def HuffTakesUptoSaid : Prop := huffTakesUptoRow.holds Try.pinned (OpenSpec.upto huffTakesSpec)

/-- 'engraverlaw3.HuffBack', WHERE WHAT IT READS IS OF BULK AT MOST 1048576: true; the input reads as it did. -/
def huffBackUptoRow : OpenClaim := { program := "ytmclopghpnndnaa", sum := "a4bb48b9e1a52c4bd27e0882543c9d56d4add7e162fdf964ca0b2f0deb95d875", func := "engraver/engraverlaw3.HuffBack", spec := "huffBack", unfollowed := true, recurses := true, apart := false, narrowed := true }
def HuffBackUptoSaid : Prop := huffBackUptoRow.holds Try.pinned (OpenSpec.upto huffBackSpec)

/-- 'engraverlaw3.HuffLengths', WHERE WHAT IT READS IS OF BULK AT MOST 1048576: true; the input reads as it did. -/
def huffLengthsUptoRow : OpenClaim := { program := "ytmclopghpnndnaa", sum := "a4bb48b9e1a52c4bd27e0882543c9d56d4add7e162fdf964ca0b2f0deb95d875", func := "engraver/engraverlaw3.HuffLengths", spec := "huffLengths", unfollowed := true, recurses := true, apart := false, narrowed := true }
def HuffLengthsUptoSaid : Prop := huffLengthsUptoRow.holds Try.pinned (OpenSpec.upto huffLengthsSpec)

/-- 'engraverlaw3.HuffKnown', WHERE WHAT IT READS IS OF BULK AT MOST 1048576: true; the input reads as it did. -/
def huffKnownUptoRow : OpenClaim := { program := "ytmclopghpnndnaa", sum := "a4bb48b9e1a52c4bd27e0882543c9d56d4add7e162fdf964ca0b2f0deb95d875", func := "engraver/engraverlaw3.HuffKnown", spec := "huffKnown", unfollowed := true, recurses := true, apart := false, narrowed := true }
def HuffKnownUptoSaid : Prop := huffKnownUptoRow.holds Try.pinned (OpenSpec.upto huffKnownSpec)

end Rows
end Go.Proofs.Ytmclopghpnndnaa
