/-
  No cell of these rows narrows 'for every input' (looked for: loops, veiled, ifaces, maps, wideKeys, modest, calm, conditions, laid).
  DERIVED. THE GIVEN ROWS OF THIS SEAT. 7 by the template 'for every input the law returns true; each argument reads behind the call as it read before'; 0 by the template 'total and deterministic' (their statements: YtoplcgkafaoafaaTotals.lean).
  GIVEN WITH THE SEED: the statements are not yours to turn. If you find one false, say at which input.
  Laid BY PROGRAM, IN A SANDBOX (cutbox-rows.mjs): the forced cells as the released guide's own fill.sh prints them over the translation 2688cfbe1b3f8ef4… (all of the seat's roots in one cut). By AI agents, Wed Nov 11 2026. No macro, syntax, notation, axiom, sorry.
-/
import Derived.Test.YtoplcgkafaoafaaChecked
import GoSem.Claim
import GoSem.ClaimJoined
import GoSem.ClaimMapViews
import Derived.JoinedTies
import Derived.KernelRfl
namespace Go.Proofs.Ytoplcgkafaoafaa
/- THE CELL 'sum', in the pinned program and in every row, IS THE sha256 OF THE DUMP (.gsa) THAT YtoplcgkafaoafaaProg.lean LOADS. Nothing in Lean hashes anything: it is a label: what it is worth is what the hold of that sum in a sandbox is worth. -/
noncomputable def Try.pinned : Pinned := { name := "ytoplcgkafaoafaa", sum := "2688cfbe1b3f8ef4b63fccb06e5f2f628e5ed46c85b81bf08d93ad283df9d217", checked := Try.checked }
namespace Rows
def none {H : Type} : Left H := { results := [], args := [] }

/-- 'engraverlaw4.InflateReads': WHATEVER THE INPUT: true; the input reads as it did. -/
def inflateReadsSpec : ChangeSpec := { name := "inflateReads", fn := fun _ => fun
  | [d1, d2] => { results := [.lit (.bool true)], args := [d1, d2] }
  | _ => none }
def inflateReadsRow : OpenClaim := { program := "ytoplcgkafaoafaa", sum := "2688cfbe1b3f8ef4b63fccb06e5f2f628e5ed46c85b81bf08d93ad283df9d217", func := "engraver/engraverlaw4.InflateReads", spec := "inflateReads", unfollowed := true, recurses := true, apart := false }
def InflateReadsSaid : Prop := inflateReadsRow.holds Try.pinned (OpenSpec.ofChange inflateReadsSpec)

/-- ITS FALSE NEIGHBOUR: 'it returns false'. Refute it at one input. -/
def inflateReadsWrong : ChangeSpec := { name := "inflateReads", fn := fun _ => fun
  | [d1, d2] => { results := [.lit (.bool false)], args := [d1, d2] }
  | _ => none }
def InflateReadsWrongFalsely : Prop := inflateReadsRow.holds Try.pinned (OpenSpec.ofChange inflateReadsWrong)

/-- 'engraverlaw4.InflateSlices': WHATEVER THE INPUT: true; the input reads as it did. -/
def inflateSlicesSpec : ChangeSpec := { name := "inflateSlices", fn := fun _ => fun
  | [d1, d2, d3] => { results := [.lit (.bool true)], args := [d1, d2, d3] }
  | _ => none }
def inflateSlicesRow : OpenClaim := { program := "ytoplcgkafaoafaa", sum := "2688cfbe1b3f8ef4b63fccb06e5f2f628e5ed46c85b81bf08d93ad283df9d217", func := "engraver/engraverlaw4.InflateSlices", spec := "inflateSlices", unfollowed := true, recurses := true, apart := false }
def InflateSlicesSaid : Prop := inflateSlicesRow.holds Try.pinned (OpenSpec.ofChange inflateSlicesSpec)

/-- ITS FALSE NEIGHBOUR: 'it returns false'. Refute it at one input. -/
def inflateSlicesWrong : ChangeSpec := { name := "inflateSlices", fn := fun _ => fun
  | [d1, d2, d3] => { results := [.lit (.bool false)], args := [d1, d2, d3] }
  | _ => none }
def InflateSlicesWrongFalsely : Prop := inflateSlicesRow.holds Try.pinned (OpenSpec.ofChange inflateSlicesWrong)

/-- 'engraverlaw4.InflateStored': WHATEVER THE INPUT: true; the input reads as it did. -/
def inflateStoredSpec : ChangeSpec := { name := "inflateStored", fn := fun _ => fun
  | [d1, d2] => { results := [.lit (.bool true)], args := [d1, d2] }
  | _ => none }
def inflateStoredRow : OpenClaim := { program := "ytoplcgkafaoafaa", sum := "2688cfbe1b3f8ef4b63fccb06e5f2f628e5ed46c85b81bf08d93ad283df9d217", func := "engraver/engraverlaw4.InflateStored", spec := "inflateStored", unfollowed := true, recurses := true, apart := false }
def InflateStoredSaid : Prop := inflateStoredRow.holds Try.pinned (OpenSpec.ofChange inflateStoredSpec)

/-- ITS FALSE NEIGHBOUR: 'it returns false'. Refute it at one input. -/
def inflateStoredWrong : ChangeSpec := { name := "inflateStored", fn := fun _ => fun
  | [d1, d2] => { results := [.lit (.bool false)], args := [d1, d2] }
  | _ => none }
def InflateStoredWrongFalsely : Prop := inflateStoredRow.holds Try.pinned (OpenSpec.ofChange inflateStoredWrong)

/-- 'engraverlaw4.InflateRuns': WHATEVER THE INPUT: true; the input reads as it did. -/
def inflateRunsSpec : ChangeSpec := { name := "inflateRuns", fn := fun _ => fun
  | [d1, d2, d3] => { results := [.lit (.bool true)], args := [d1, d2, d3] }
  | _ => none }
def inflateRunsRow : OpenClaim := { program := "ytoplcgkafaoafaa", sum := "2688cfbe1b3f8ef4b63fccb06e5f2f628e5ed46c85b81bf08d93ad283df9d217", func := "engraver/engraverlaw4.InflateRuns", spec := "inflateRuns", unfollowed := true, recurses := true, apart := false }
def InflateRunsSaid : Prop := inflateRunsRow.holds Try.pinned (OpenSpec.ofChange inflateRunsSpec)

/-- ITS FALSE NEIGHBOUR: 'it returns false'. Refute it at one input. -/
def inflateRunsWrong : ChangeSpec := { name := "inflateRuns", fn := fun _ => fun
  | [d1, d2, d3] => { results := [.lit (.bool false)], args := [d1, d2, d3] }
  | _ => none }
def InflateRunsWrongFalsely : Prop := inflateRunsRow.holds Try.pinned (OpenSpec.ofChange inflateRunsWrong)

/-- 'engraverlaw4.InflateCuts': WHATEVER THE INPUT: true; the input reads as it did. -/
def inflateCutsSpec : ChangeSpec := { name := "inflateCuts", fn := fun _ => fun
  | [d1, d2, d3] => { results := [.lit (.bool true)], args := [d1, d2, d3] }
  | _ => none }
def inflateCutsRow : OpenClaim := { program := "ytoplcgkafaoafaa", sum := "2688cfbe1b3f8ef4b63fccb06e5f2f628e5ed46c85b81bf08d93ad283df9d217", func := "engraver/engraverlaw4.InflateCuts", spec := "inflateCuts", unfollowed := true, recurses := true, apart := false }
def InflateCutsSaid : Prop := inflateCutsRow.holds Try.pinned (OpenSpec.ofChange inflateCutsSpec)

/-- ITS FALSE NEIGHBOUR: 'it returns false'. Refute it at one input. -/
def inflateCutsWrong : ChangeSpec := { name := "inflateCuts", fn := fun _ => fun
  | [d1, d2, d3] => { results := [.lit (.bool false)], args := [d1, d2, d3] }
  | _ => none }
def InflateCutsWrongFalsely : Prop := inflateCutsRow.holds Try.pinned (OpenSpec.ofChange inflateCutsWrong)

/-- 'engraverlaw4.InflateRoom': WHATEVER THE INPUT: true; the input reads as it did. -/
def inflateRoomSpec : ChangeSpec := { name := "inflateRoom", fn := fun _ => fun
  | [d] => { results := [.lit (.bool true)], args := [d] }
  | _ => none }
def inflateRoomRow : OpenClaim := { program := "ytoplcgkafaoafaa", sum := "2688cfbe1b3f8ef4b63fccb06e5f2f628e5ed46c85b81bf08d93ad283df9d217", func := "engraver/engraverlaw4.InflateRoom", spec := "inflateRoom", unfollowed := true, recurses := true, apart := false }
def InflateRoomSaid : Prop := inflateRoomRow.holds Try.pinned (OpenSpec.ofChange inflateRoomSpec)

/-- ITS FALSE NEIGHBOUR: 'it returns false'. Refute it at one input. -/
def inflateRoomWrong : ChangeSpec := { name := "inflateRoom", fn := fun _ => fun
  | [d] => { results := [.lit (.bool false)], args := [d] }
  | _ => none }
def InflateRoomWrongFalsely : Prop := inflateRoomRow.holds Try.pinned (OpenSpec.ofChange inflateRoomWrong)

/-- 'engraverlaw4.InflateKnown': WHATEVER THE INPUT: true; the input reads as it did. -/
def inflateKnownSpec : ChangeSpec := { name := "inflateKnown", fn := fun _ => fun
  | [] => { results := [.lit (.bool true)], args := [] }
  | _ => none }
def inflateKnownRow : OpenClaim := { program := "ytoplcgkafaoafaa", sum := "2688cfbe1b3f8ef4b63fccb06e5f2f628e5ed46c85b81bf08d93ad283df9d217", func := "engraver/engraverlaw4.InflateKnown", spec := "inflateKnown", unfollowed := true, recurses := true, apart := false }
def InflateKnownSaid : Prop := inflateKnownRow.holds Try.pinned (OpenSpec.ofChange inflateKnownSpec)

/-- ITS FALSE NEIGHBOUR: 'it returns false'. Refute it at one input. -/
def inflateKnownWrong : ChangeSpec := { name := "inflateKnown", fn := fun _ => fun
  | [] => { results := [.lit (.bool false)], args := [] }
  | _ => none }
def InflateKnownWrongFalsely : Prop := inflateKnownRow.holds Try.pinned (OpenSpec.ofChange inflateKnownWrong)

/- THE SECOND FORM. 'bulk': how many values and letters a reading holds, each counted each time it is reached (what is shared counts as often as it is met; a slice's spare places count too). A statement '..UptoSaid' is the law's where the arguments, and the package variables that the reading takes, are together of bulk at most 1048576: NARROWER than '..Said'. Prove '..Said' where nothing that the law and all that it calls make is longer than what came in: it says more and counts as full. Else prove '..UptoSaid'. A law counts once. -/
mutual
def uptoBulk {H : Type} : DataW H → Nat
  | .lit (.string bytes) => bytes.length + 1
  | .lit _ => 1
  | .nil => 1
  | .ptr d => uptoBulk d + 1
  | .slice elems spare => uptoBulkAll elems + uptoBulkAll spare + 1
  | .agg parts => uptoBulkAll parts + 1
  | .iface _ d => uptoBulk d + 1
  | .map entries => uptoBulkEntries entries + 1
  | .held _ => 1
def uptoBulkAll {H : Type} : List (DataW H) → Nat
  | [] => 0
  | d :: r => uptoBulk d + uptoBulkAll r
def uptoBulkEntries {H : Type} : List (Lit × DataW H) → Nat
  | [] => 0
  | x :: r => uptoBulkEntry x + uptoBulkEntries r
def uptoBulkEntry {H : Type} : Lit × DataW H → Nat
  | (.string bytes, d) => bytes.length + uptoBulk d + 1
  | (_, d) => uptoBulk d + 1
 end
def uptoSmall : (H : Type) → List (DataW H) → Bool := fun _ ds => decide (uptoBulkAll ds ≤ 1048576)
def OpenSpec.upto (s : _root_.Go.ChangeSpec) : _root_.Go.OpenSpec := { _root_.Go.OpenSpec.ofChange s with cond := some uptoSmall }

/-- 'engraverlaw4.InflateReads', WHERE WHAT IT READS IS OF BULK AT MOST 1048576: true; the input reads as it did. -/
def inflateReadsUptoRow : OpenClaim := { program := "ytoplcgkafaoafaa", sum := "2688cfbe1b3f8ef4b63fccb06e5f2f628e5ed46c85b81bf08d93ad283df9d217", func := "engraver/engraverlaw4.InflateReads", spec := "inflateReads", unfollowed := true, recurses := true, apart := false, narrowed := true }
def InflateReadsUptoSaid : Prop := inflateReadsUptoRow.holds Try.pinned (OpenSpec.upto inflateReadsSpec)

/-- 'engraverlaw4.InflateSlices', WHERE WHAT IT READS IS OF BULK AT MOST 1048576: true; the input reads as it did. -/
def inflateSlicesUptoRow : OpenClaim := { program := "ytoplcgkafaoafaa", sum := "2688cfbe1b3f8ef4b63fccb06e5f2f628e5ed46c85b81bf08d93ad283df9d217", func := "engraver/engraverlaw4.InflateSlices", spec := "inflateSlices", unfollowed := true, recurses := true, apart := false, narrowed := true }
def InflateSlicesUptoSaid : Prop := inflateSlicesUptoRow.holds Try.pinned (OpenSpec.upto inflateSlicesSpec)

/-- 'engraverlaw4.InflateStored', WHERE WHAT IT READS IS OF BULK AT MOST 1048576: true; the input reads as it did. -/
def inflateStoredUptoRow : OpenClaim := { program := "ytoplcgkafaoafaa", sum := "2688cfbe1b3f8ef4b63fccb06e5f2f628e5ed46c85b81bf08d93ad283df9d217", func := "engraver/engraverlaw4.InflateStored", spec := "inflateStored", unfollowed := true, recurses := true, apart := false, narrowed := true }
def InflateStoredUptoSaid : Prop := inflateStoredUptoRow.holds Try.pinned (OpenSpec.upto inflateStoredSpec)

/-- 'engraverlaw4.InflateRuns', WHERE WHAT IT READS IS OF BULK AT MOST 1048576: true; the input reads as it did. -/
def inflateRunsUptoRow : OpenClaim := { program := "ytoplcgkafaoafaa", sum := "2688cfbe1b3f8ef4b63fccb06e5f2f628e5ed46c85b81bf08d93ad283df9d217", func := "engraver/engraverlaw4.InflateRuns", spec := "inflateRuns", unfollowed := true, recurses := true, apart := false, narrowed := true }
def InflateRunsUptoSaid : Prop := inflateRunsUptoRow.holds Try.pinned (OpenSpec.upto inflateRunsSpec)

/-- 'engraverlaw4.InflateCuts', WHERE WHAT IT READS IS OF BULK AT MOST 1048576: true; the input reads as it did. -/
def inflateCutsUptoRow : OpenClaim := { program := "ytoplcgkafaoafaa", sum := "2688cfbe1b3f8ef4b63fccb06e5f2f628e5ed46c85b81bf08d93ad283df9d217", func := "engraver/engraverlaw4.InflateCuts", spec := "inflateCuts", unfollowed := true, recurses := true, apart := false, narrowed := true }
def InflateCutsUptoSaid : Prop := inflateCutsUptoRow.holds Try.pinned (OpenSpec.upto inflateCutsSpec)

/-- 'engraverlaw4.InflateRoom', WHERE WHAT IT READS IS OF BULK AT MOST 1048576: true; the input reads as it did. -/
def inflateRoomUptoRow : OpenClaim := { program := "ytoplcgkafaoafaa", sum := "2688cfbe1b3f8ef4b63fccb06e5f2f628e5ed46c85b81bf08d93ad283df9d217", func := "engraver/engraverlaw4.InflateRoom", spec := "inflateRoom", unfollowed := true, recurses := true, apart := false, narrowed := true }
def InflateRoomUptoSaid : Prop := inflateRoomUptoRow.holds Try.pinned (OpenSpec.upto inflateRoomSpec)

/-- 'engraverlaw4.InflateKnown', WHERE WHAT IT READS IS OF BULK AT MOST 1048576: true; the input reads as it did. -/
def inflateKnownUptoRow : OpenClaim := { program := "ytoplcgkafaoafaa", sum := "2688cfbe1b3f8ef4b63fccb06e5f2f628e5ed46c85b81bf08d93ad283df9d217", func := "engraver/engraverlaw4.InflateKnown", spec := "inflateKnown", unfollowed := true, recurses := true, apart := false, narrowed := true }
def InflateKnownUptoSaid : Prop := inflateKnownUptoRow.holds Try.pinned (OpenSpec.upto inflateKnownSpec)

end Rows
end Go.Proofs.Ytoplcgkafaoafaa
