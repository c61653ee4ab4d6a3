/-
  No cell of these rows narrows 'for every input' (looked for: loops, veiled, ifaces, maps, wideKeys, modest, calm, conditions, laid).
  DERIVED. THE GIVEN ROWS OF THIS SEAT. 6 by the template 'for every input the law returns true; each argument reads behind the call as it read before'; 0 by the template 'total and deterministic' (their statements: YtpkemaglokbfiaaTotals.lean).
  GIVEN WITH THE SEED: the statements are not yours to turn. If you find one false, say at which input.
  Laid BY PROGRAM, IN A SANDBOX (cutbox-rows.mjs): the forced cells as the released guide's own fill.sh prints them over the translation 0c1d511a8505080f… (all of the seat's roots in one cut). By AI agents, Wed Nov 11 2026. No macro, syntax, notation, axiom, sorry.
-/
import Derived.Test.YtpkemaglokbfiaaChecked
import GoSem.Claim
import GoSem.ClaimJoined
import GoSem.ClaimMapViews
import Derived.JoinedTies
import Derived.KernelRfl
namespace Go.Proofs.Ytpkemaglokbfiaa
/- THE CELL 'sum', in the pinned program and in every row, IS THE sha256 OF THE DUMP (.gsa) THAT YtpkemaglokbfiaaProg.lean LOADS. Nothing in Lean hashes anything: it is a label: what it is worth is what the hold of that sum in a sandbox is worth. -/
noncomputable def Try.pinned : Pinned := { name := "ytpkemaglokbfiaa", sum := "0c1d511a8505080fce8e1202cc47243edd70edc2fa56f6fe23331f432bc452db", checked := Try.checked }
namespace Rows
def none {H : Type} : Left H := { results := [], args := [] }

/-- 'engraverlaw23.FairShares': WHATEVER THE INPUT: true; the input reads as it did. -/
def fairSharesSpec : ChangeSpec := { name := "fairShares", fn := fun _ => fun
  | [d1, d2, d3] => { results := [.lit (.bool true)], args := [d1, d2, d3] }
  | _ => none }
def fairSharesRow : OpenClaim := { program := "ytpkemaglokbfiaa", sum := "0c1d511a8505080fce8e1202cc47243edd70edc2fa56f6fe23331f432bc452db", func := "engraver/engraverlaw23.FairShares", spec := "fairShares", unfollowed := true, recurses := true, apart := false }
def FairSharesSaid : Prop := fairSharesRow.holds Try.pinned (OpenSpec.ofChange fairSharesSpec)

/-- ITS FALSE NEIGHBOUR: 'it returns false'. Refute it at one input. -/
def fairSharesWrong : ChangeSpec := { name := "fairShares", fn := fun _ => fun
  | [d1, d2, d3] => { results := [.lit (.bool false)], args := [d1, d2, d3] }
  | _ => none }
def FairSharesWrongFalsely : Prop := fairSharesRow.holds Try.pinned (OpenSpec.ofChange fairSharesWrong)

/-- 'engraverlaw23.FairTurns': WHATEVER THE INPUT: true; the input reads as it did. -/
def fairTurnsSpec : ChangeSpec := { name := "fairTurns", fn := fun _ => fun
  | [d1, d2] => { results := [.lit (.bool true)], args := [d1, d2] }
  | _ => none }
def fairTurnsRow : OpenClaim := { program := "ytpkemaglokbfiaa", sum := "0c1d511a8505080fce8e1202cc47243edd70edc2fa56f6fe23331f432bc452db", func := "engraver/engraverlaw23.FairTurns", spec := "fairTurns", unfollowed := true, recurses := true, apart := false }
def FairTurnsSaid : Prop := fairTurnsRow.holds Try.pinned (OpenSpec.ofChange fairTurnsSpec)

/-- ITS FALSE NEIGHBOUR: 'it returns false'. Refute it at one input. -/
def fairTurnsWrong : ChangeSpec := { name := "fairTurns", fn := fun _ => fun
  | [d1, d2] => { results := [.lit (.bool false)], args := [d1, d2] }
  | _ => none }
def FairTurnsWrongFalsely : Prop := fairTurnsRow.holds Try.pinned (OpenSpec.ofChange fairTurnsWrong)

/-- 'engraverlaw23.FairKnown': WHATEVER THE INPUT: true; the input reads as it did. -/
def fairKnownSpec : ChangeSpec := { name := "fairKnown", fn := fun _ => fun
  | [] => { results := [.lit (.bool true)], args := [] }
  | _ => none }
def fairKnownRow : OpenClaim := { program := "ytpkemaglokbfiaa", sum := "0c1d511a8505080fce8e1202cc47243edd70edc2fa56f6fe23331f432bc452db", func := "engraver/engraverlaw23.FairKnown", spec := "fairKnown", unfollowed := true, recurses := true, apart := false }
def FairKnownSaid : Prop := fairKnownRow.holds Try.pinned (OpenSpec.ofChange fairKnownSpec)

/-- ITS FALSE NEIGHBOUR: 'it returns false'. Refute it at one input. -/
def fairKnownWrong : ChangeSpec := { name := "fairKnown", fn := fun _ => fun
  | [] => { results := [.lit (.bool false)], args := [] }
  | _ => none }
def FairKnownWrongFalsely : Prop := fairKnownRow.holds Try.pinned (OpenSpec.ofChange fairKnownWrong)

/-- 'engraverlaw23.FairWeights': WHATEVER THE INPUT: true; the input reads as it did. -/
def fairWeightsSpec : ChangeSpec := { name := "fairWeights", fn := fun _ => fun
  | [d] => { results := [.lit (.bool true)], args := [d] }
  | _ => none }
def fairWeightsRow : OpenClaim := { program := "ytpkemaglokbfiaa", sum := "0c1d511a8505080fce8e1202cc47243edd70edc2fa56f6fe23331f432bc452db", func := "engraver/engraverlaw23.FairWeights", spec := "fairWeights", inPlace := ["math.archFloor", "math.Float64bits", "math.Float64frombits", "math.archTrunc"], unfollowed := true, recurses := true, apart := false }
def FairWeightsSaid : Prop := fairWeightsRow.holds Try.pinned (OpenSpec.ofChange fairWeightsSpec)

/-- ITS FALSE NEIGHBOUR: 'it returns false'. Refute it at one input. -/
def fairWeightsWrong : ChangeSpec := { name := "fairWeights", fn := fun _ => fun
  | [d] => { results := [.lit (.bool false)], args := [d] }
  | _ => none }
def FairWeightsWrongFalsely : Prop := fairWeightsRow.holds Try.pinned (OpenSpec.ofChange fairWeightsWrong)

/-- 'engraverlaw23.FairPlays': WHATEVER THE INPUT: true; the input reads as it did. -/
def fairPlaysSpec : ChangeSpec := { name := "fairPlays", fn := fun _ => fun
  | [d] => { results := [.lit (.bool true)], args := [d] }
  | _ => none }
def fairPlaysRow : OpenClaim := { program := "ytpkemaglokbfiaa", sum := "0c1d511a8505080fce8e1202cc47243edd70edc2fa56f6fe23331f432bc452db", func := "engraver/engraverlaw23.FairPlays", spec := "fairPlays", inPlace := ["math.archFloor", "math.Float64bits", "math.Float64frombits", "math.archTrunc"], unfollowed := true, recurses := true, apart := false }
def FairPlaysSaid : Prop := fairPlaysRow.holds Try.pinned (OpenSpec.ofChange fairPlaysSpec)

/-- ITS FALSE NEIGHBOUR: 'it returns false'. Refute it at one input. -/
def fairPlaysWrong : ChangeSpec := { name := "fairPlays", fn := fun _ => fun
  | [d] => { results := [.lit (.bool false)], args := [d] }
  | _ => none }
def FairPlaysWrongFalsely : Prop := fairPlaysRow.holds Try.pinned (OpenSpec.ofChange fairPlaysWrong)

/-- 'engraverlaw23.FairNone': WHATEVER THE INPUT: true; the input reads as it did. -/
def fairNoneSpec : ChangeSpec := { name := "fairNone", fn := fun _ => fun
  | [d1, d2] => { results := [.lit (.bool true)], args := [d1, d2] }
  | _ => none }
def fairNoneRow : OpenClaim := { program := "ytpkemaglokbfiaa", sum := "0c1d511a8505080fce8e1202cc47243edd70edc2fa56f6fe23331f432bc452db", func := "engraver/engraverlaw23.FairNone", spec := "fairNone", inPlace := ["math.archFloor", "math.Float64bits", "math.Float64frombits", "math.archTrunc"], unfollowed := true, recurses := true, apart := false }
def FairNoneSaid : Prop := fairNoneRow.holds Try.pinned (OpenSpec.ofChange fairNoneSpec)

/-- ITS FALSE NEIGHBOUR: 'it returns false'. Refute it at one input. -/
def fairNoneWrong : ChangeSpec := { name := "fairNone", fn := fun _ => fun
  | [d1, d2] => { results := [.lit (.bool false)], args := [d1, d2] }
  | _ => none }
def FairNoneWrongFalsely : Prop := fairNoneRow.holds Try.pinned (OpenSpec.ofChange fairNoneWrong)

/- THE SECOND FORM. 'bulk': how many values and letters a reading holds, each counted each time it is reached (what is shared counts as often as it is met; a slice's spare places count too). A statement '..UptoSaid' is the law's where the arguments, and the package variables that the reading takes, are together of bulk at most 1048576: NARROWER than '..Said'. Prove '..Said' where nothing that the law and all that it calls make is longer than what came in: it says more and counts as full. Else prove '..UptoSaid'. A law counts once. -/
mutual
def uptoBulk {H : Type} : DataW H → Nat
  | .lit (.string bytes) => bytes.length + 1
  | .lit _ => 1
  | .nil => 1
  | .ptr d => uptoBulk d + 1
  | .slice elems spare => uptoBulkAll elems + uptoBulkAll spare + 1
  | .agg parts => uptoBulkAll parts + 1
  | .iface _ d => uptoBulk d + 1
  | .map entries => uptoBulkEntries entries + 1
  | .held _ => 1
def uptoBulkAll {H : Type} : List (DataW H) → Nat
  | [] => 0
  | d :: r => uptoBulk d + uptoBulkAll r
def uptoBulkEntries {H : Type} : List (Lit × DataW H) → Nat
  | [] => 0
  | x :: r => uptoBulkEntry x + uptoBulkEntries r
def uptoBulkEntry {H : Type} : Lit × DataW H → Nat
  | (.string bytes, d) => bytes.length + uptoBulk d + 1
  | (_, d) => uptoBulk d + 1
 end
def uptoSmall : (H : Type) → List (DataW H) → Bool := fun _ ds => decide (uptoBulkAll ds ≤ 1048576)
def OpenSpec.upto (s : _root_.Go.ChangeSpec) : _root_.Go.OpenSpec := { _root_.Go.OpenSpec.ofChange s with cond := some uptoSmall }

/-- 'engraverlaw23.FairShares', WHERE WHAT IT READS IS OF BULK AT MOST 1048576: true; the input reads as it did. -/
def fairSharesUptoRow : OpenClaim := { program := "ytpkemaglokbfiaa", sum := "0c1d511a8505080fce8e1202cc47243edd70edc2fa56f6fe23331f432bc452db", func := "engraver/engraverlaw23.FairShares", spec := "fairShares", unfollowed := true, recurses := true, apart := false, narrowed := true }
def FairSharesUptoSaid : Prop := fairSharesUptoRow.holds Try.pinned (OpenSpec.upto fairSharesSpec)

/-- 'engraverlaw23.FairTurns', WHERE WHAT IT READS IS OF BULK AT MOST 1048576: true; the input reads as it did. -/
def fairTurnsUptoRow : OpenClaim := { program := "ytpkemaglokbfiaa", sum := "0c1d511a8505080fce8e1202cc47243edd70edc2fa56f6fe23331f432bc452db", func := "engraver/engraverlaw23.FairTurns", spec := "fairTurns", unfollowed := true, recurses := true, apart := false, narrowed := true }
def FairTurnsUptoSaid : Prop := fairTurnsUptoRow.holds Try.pinned (OpenSpec.upto fairTurnsSpec)

/-- 'engraverlaw23.FairKnown', WHERE WHAT IT READS IS OF BULK AT MOST 1048576: true; the input reads as it did. -/
def fairKnownUptoRow : OpenClaim := { program := "ytpkemaglokbfiaa", sum := "0c1d511a8505080fce8e1202cc47243edd70edc2fa56f6fe23331f432bc452db", func := "engraver/engraverlaw23.FairKnown", spec := "fairKnown", unfollowed := true, recurses := true, apart := false, narrowed := true }
def FairKnownUptoSaid : Prop := fairKnownUptoRow.holds Try.pinned (OpenSpec.upto fairKnownSpec)

/-- 'engraverlaw23.FairWeights', WHERE WHAT IT READS IS OF BULK AT MOST 1048576: true; the input reads as it did. -/
def fairWeightsUptoRow : OpenClaim := { program := "ytpkemaglokbfiaa", sum := "0c1d511a8505080fce8e1202cc47243edd70edc2fa56f6fe23331f432bc452db", func := "engraver/engraverlaw23.FairWeights", spec := "fairWeights", inPlace := ["math.archFloor", "math.Float64bits", "math.Float64frombits", "math.archTrunc"], unfollowed := true, recurses := true, apart := false, narrowed := true }
def FairWeightsUptoSaid : Prop := fairWeightsUptoRow.holds Try.pinned (OpenSpec.upto fairWeightsSpec)

/-- 'engraverlaw23.FairPlays', WHERE WHAT IT READS IS OF BULK AT MOST 1048576: true; the input reads as it did. -/
def fairPlaysUptoRow : OpenClaim := { program := "ytpkemaglokbfiaa", sum := "0c1d511a8505080fce8e1202cc47243edd70edc2fa56f6fe23331f432bc452db", func := "engraver/engraverlaw23.FairPlays", spec := "fairPlays", inPlace := ["math.archFloor", "math.Float64bits", "math.Float64frombits", "math.archTrunc"], unfollowed := true, recurses := true, apart := false, narrowed := true }
def FairPlaysUptoSaid : Prop := fairPlaysUptoRow.holds Try.pinned (OpenSpec.upto fairPlaysSpec)

/-- 'engraverlaw23.FairNone', WHERE WHAT IT READS IS OF BULK AT MOST 1048576: true; the input reads as it did. -/
def fairNoneUptoRow : OpenClaim := { program := "ytpkemaglokbfiaa", sum := "0c1d511a8505080fce8e1202cc47243edd70edc2fa56f6fe23331f432bc452db", func := "engraver/engraverlaw23.FairNone", spec := "fairNone", inPlace := ["math.archFloor", "math.Float64bits", "math.Float64frombits", "math.archTrunc"], unfollowed := true, recurses := true, apart := false, narrowed := true }
def FairNoneUptoSaid : Prop := fairNoneUptoRow.holds Try.pinned (OpenSpec.upto fairNoneSpec)

end Rows
end Go.Proofs.Ytpkemaglokbfiaa
