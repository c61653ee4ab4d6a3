/-
  No cell of these rows narrows 'for every input' (looked for: loops, veiled, ifaces, maps, wideKeys, modest, calm, conditions, laid).
  DERIVED. THE GIVEN ROWS OF THIS SEAT. 6 by the template 'for every input the law returns true; each argument reads behind the call as it read before'; 0 by the template 'total and deterministic' (their statements: YthmgkggpipnalaaTotals.lean).
  GIVEN WITH THE SEED: the statements are not yours to turn. If you find one false, say at which input.
  Laid BY PROGRAM, IN A SANDBOX (cutbox-rows.mjs): the forced cells as the released guide's own fill.sh prints them over the translation 2b9d151391d512c1… (all of the seat's roots in one cut). By AI agents, Wed Nov 11 2026. No macro, syntax, notation, axiom, sorry.
-/
import Derived.Test.YthmgkggpipnalaaChecked
import GoSem.Claim
import GoSem.ClaimJoined
import GoSem.ClaimMapViews
import Derived.JoinedTies
import Derived.KernelRfl
namespace Go.Proofs.Ythmgkggpipnalaa
/- THE CELL 'sum', in the pinned program and in every row, IS THE sha256 OF THE DUMP (.gsa) THAT YthmgkggpipnalaaProg.lean LOADS. Nothing in Lean hashes anything: it is a label: what it is worth is what the hold of that sum in a sandbox is worth. -/
noncomputable def Try.pinned : Pinned := { name := "ythmgkggpipnalaa", sum := "2b9d151391d512c16ed53aa0a5bbb4b7251fc1cbd3abc39621701df4e33b22b5", checked := Try.checked }
namespace Rows
def none {H : Type} : Left H := { results := [], args := [] }

/-- 'engraverlaw5.DeflateBack': WHATEVER THE INPUT: true; the input reads as it did. -/
def deflateBackSpec : ChangeSpec := { name := "deflateBack", fn := fun _ => fun
  | [d] => { results := [.lit (.bool true)], args := [d] }
  | _ => none }
def deflateBackRow : OpenClaim := { program := "ythmgkggpipnalaa", sum := "2b9d151391d512c16ed53aa0a5bbb4b7251fc1cbd3abc39621701df4e33b22b5", func := "engraver/engraverlaw5.DeflateBack", spec := "deflateBack", unfollowed := true, recurses := true, apart := false }
def DeflateBackSaid : Prop := deflateBackRow.holds Try.pinned (OpenSpec.ofChange deflateBackSpec)

/-- ITS FALSE NEIGHBOUR: 'it returns false'. Refute it at one input. -/
def deflateBackWrong : ChangeSpec := { name := "deflateBack", fn := fun _ => fun
  | [d] => { results := [.lit (.bool false)], args := [d] }
  | _ => none }
def DeflateBackWrongFalsely : Prop := deflateBackRow.holds Try.pinned (OpenSpec.ofChange deflateBackWrong)

/-- 'engraverlaw5.DeflateSlices': WHATEVER THE INPUT: true; the input reads as it did. -/
def deflateSlicesSpec : ChangeSpec := { name := "deflateSlices", fn := fun _ => fun
  | [d1, d2] => { results := [.lit (.bool true)], args := [d1, d2] }
  | _ => none }
def deflateSlicesRow : OpenClaim := { program := "ythmgkggpipnalaa", sum := "2b9d151391d512c16ed53aa0a5bbb4b7251fc1cbd3abc39621701df4e33b22b5", func := "engraver/engraverlaw5.DeflateSlices", spec := "deflateSlices", unfollowed := true, recurses := true, apart := false }
def DeflateSlicesSaid : Prop := deflateSlicesRow.holds Try.pinned (OpenSpec.ofChange deflateSlicesSpec)

/-- ITS FALSE NEIGHBOUR: 'it returns false'. Refute it at one input. -/
def deflateSlicesWrong : ChangeSpec := { name := "deflateSlices", fn := fun _ => fun
  | [d1, d2] => { results := [.lit (.bool false)], args := [d1, d2] }
  | _ => none }
def DeflateSlicesWrongFalsely : Prop := deflateSlicesRow.holds Try.pinned (OpenSpec.ofChange deflateSlicesWrong)

/-- 'engraverlaw5.DeflateSmall': WHATEVER THE INPUT: true; the input reads as it did. -/
def deflateSmallSpec : ChangeSpec := { name := "deflateSmall", fn := fun _ => fun
  | [d1, d2] => { results := [.lit (.bool true)], args := [d1, d2] }
  | _ => none }
def deflateSmallRow : OpenClaim := { program := "ythmgkggpipnalaa", sum := "2b9d151391d512c16ed53aa0a5bbb4b7251fc1cbd3abc39621701df4e33b22b5", func := "engraver/engraverlaw5.DeflateSmall", spec := "deflateSmall", unfollowed := true, recurses := true, apart := false }
def DeflateSmallSaid : Prop := deflateSmallRow.holds Try.pinned (OpenSpec.ofChange deflateSmallSpec)

/-- ITS FALSE NEIGHBOUR: 'it returns false'. Refute it at one input. -/
def deflateSmallWrong : ChangeSpec := { name := "deflateSmall", fn := fun _ => fun
  | [d1, d2] => { results := [.lit (.bool false)], args := [d1, d2] }
  | _ => none }
def DeflateSmallWrongFalsely : Prop := deflateSmallRow.holds Try.pinned (OpenSpec.ofChange deflateSmallWrong)

/-- 'engraverlaw5.DeflateLong': WHATEVER THE INPUT: true; the input reads as it did. -/
def deflateLongSpec : ChangeSpec := { name := "deflateLong", fn := fun _ => fun
  | [] => { results := [.lit (.bool true)], args := [] }
  | _ => none }
def deflateLongRow : OpenClaim := { program := "ythmgkggpipnalaa", sum := "2b9d151391d512c16ed53aa0a5bbb4b7251fc1cbd3abc39621701df4e33b22b5", func := "engraver/engraverlaw5.DeflateLong", spec := "deflateLong", unfollowed := true, recurses := true, apart := false }
def DeflateLongSaid : Prop := deflateLongRow.holds Try.pinned (OpenSpec.ofChange deflateLongSpec)

/-- ITS FALSE NEIGHBOUR: 'it returns false'. Refute it at one input. -/
def deflateLongWrong : ChangeSpec := { name := "deflateLong", fn := fun _ => fun
  | [] => { results := [.lit (.bool false)], args := [] }
  | _ => none }
def DeflateLongWrongFalsely : Prop := deflateLongRow.holds Try.pinned (OpenSpec.ofChange deflateLongWrong)

/-- 'engraverlaw5.DeflateSame': WHATEVER THE INPUT: true; the input reads as it did. -/
def deflateSameSpec : ChangeSpec := { name := "deflateSame", fn := fun _ => fun
  | [d1, d2] => { results := [.lit (.bool true)], args := [d1, d2] }
  | _ => none }
def deflateSameRow : OpenClaim := { program := "ythmgkggpipnalaa", sum := "2b9d151391d512c16ed53aa0a5bbb4b7251fc1cbd3abc39621701df4e33b22b5", func := "engraver/engraverlaw5.DeflateSame", spec := "deflateSame", unfollowed := true, recurses := true, apart := false }
def DeflateSameSaid : Prop := deflateSameRow.holds Try.pinned (OpenSpec.ofChange deflateSameSpec)

/-- ITS FALSE NEIGHBOUR: 'it returns false'. Refute it at one input. -/
def deflateSameWrong : ChangeSpec := { name := "deflateSame", fn := fun _ => fun
  | [d1, d2] => { results := [.lit (.bool false)], args := [d1, d2] }
  | _ => none }
def DeflateSameWrongFalsely : Prop := deflateSameRow.holds Try.pinned (OpenSpec.ofChange deflateSameWrong)

/-- 'engraverlaw5.DeflateNoise': WHATEVER THE INPUT: true; the input reads as it did. -/
def deflateNoiseSpec : ChangeSpec := { name := "deflateNoise", fn := fun _ => fun
  | [d1, d2, d3] => { results := [.lit (.bool true)], args := [d1, d2, d3] }
  | _ => none }
def deflateNoiseRow : OpenClaim := { program := "ythmgkggpipnalaa", sum := "2b9d151391d512c16ed53aa0a5bbb4b7251fc1cbd3abc39621701df4e33b22b5", func := "engraver/engraverlaw5.DeflateNoise", spec := "deflateNoise", unfollowed := true, recurses := true, apart := false }
def DeflateNoiseSaid : Prop := deflateNoiseRow.holds Try.pinned (OpenSpec.ofChange deflateNoiseSpec)

/-- ITS FALSE NEIGHBOUR: 'it returns false'. Refute it at one input. -/
def deflateNoiseWrong : ChangeSpec := { name := "deflateNoise", fn := fun _ => fun
  | [d1, d2, d3] => { results := [.lit (.bool false)], args := [d1, d2, d3] }
  | _ => none }
def DeflateNoiseWrongFalsely : Prop := deflateNoiseRow.holds Try.pinned (OpenSpec.ofChange deflateNoiseWrong)

/- THE SECOND FORM. 'bulk': how many values and letters a reading holds, each counted each time it is reached (what is shared counts as often as it is met; a slice's spare places count too). A statement '..UptoSaid' is the law's where the arguments, and the package variables that the reading takes, are together of bulk at most 1048576: NARROWER than '..Said'. Prove '..Said' where nothing that the law and all that it calls make is longer than what came in: it says more and counts as full. Else prove '..UptoSaid'. A law counts once. -/
mutual
def uptoBulk {H : Type} : DataW H → Nat
  | .lit (.string bytes) => bytes.length + 1
  | .lit _ => 1
  | .nil => 1
  | .ptr d => uptoBulk d + 1
  | .slice elems spare => uptoBulkAll elems + uptoBulkAll spare + 1
  | .agg parts => uptoBulkAll parts + 1
  | .iface _ d => uptoBulk d + 1
  | .map entries => uptoBulkEntries entries + 1
  | .held _ => 1
def uptoBulkAll {H : Type} : List (DataW H) → Nat
  | [] => 0
  | d :: r => uptoBulk d + uptoBulkAll r
def uptoBulkEntries {H : Type} : List (Lit × DataW H) → Nat
  | [] => 0
  | x :: r => uptoBulkEntry x + uptoBulkEntries r
def uptoBulkEntry {H : Type} : Lit × DataW H → Nat
  | (.string bytes, d) => bytes.length + uptoBulk d + 1
  | (_, d) => uptoBulk d + 1
 end
def uptoSmall : (H : Type) → List (DataW H) → Bool := fun _ ds => decide (uptoBulkAll ds ≤ 1048576)
def OpenSpec.upto (s : _root_.Go.ChangeSpec) : _root_.Go.OpenSpec := { _root_.Go.OpenSpec.ofChange s with cond := some uptoSmall }

/-- 'engraverlaw5.DeflateBack', WHERE WHAT IT READS IS OF BULK AT MOST 1048576: true; the input reads as it did. -/
def deflateBackUptoRow : OpenClaim := { program := "ythmgkggpipnalaa", sum := "2b9d151391d512c16ed53aa0a5bbb4b7251fc1cbd3abc39621701df4e33b22b5", func := "engraver/engraverlaw5.DeflateBack", spec := "deflateBack", unfollowed := true, recurses := true, apart := false, narrowed := true }
def DeflateBackUptoSaid : Prop := deflateBackUptoRow.holds Try.pinned (OpenSpec.upto deflateBackSpec)

/-- 'engraverlaw5.DeflateSlices', WHERE WHAT IT READS IS OF BULK AT MOST 1048576: true; the input reads as it did. -/
def deflateSlicesUptoRow : OpenClaim := { program := "ythmgkggpipnalaa", sum := "2b9d151391d512c16ed53aa0a5bbb4b7251fc1cbd3abc39621701df4e33b22b5", func := "engraver/engraverlaw5.DeflateSlices", spec := "deflateSlices", unfollowed := true, recurses := true, apart := false, narrowed := true }
def DeflateSlicesUptoSaid : Prop := deflateSlicesUptoRow.holds Try.pinned (OpenSpec.upto deflateSlicesSpec)

/-- 'engraverlaw5.DeflateSmall', WHERE WHAT IT READS IS OF BULK AT MOST 1048576: true; the input reads as it did. -/
def deflateSmallUptoRow : OpenClaim := { program := "ythmgkggpipnalaa", sum := "2b9d151391d512c16ed53aa0a5bbb4b7251fc1cbd3abc39621701df4e33b22b5", func := "engraver/engraverlaw5.DeflateSmall", spec := "deflateSmall", unfollowed := true, recurses := true, apart := false, narrowed := true }
def DeflateSmallUptoSaid : Prop := deflateSmallUptoRow.holds Try.pinned (OpenSpec.upto deflateSmallSpec)

/-- 'engraverlaw5.DeflateLong', WHERE WHAT IT READS IS OF BULK AT MOST 1048576: true; the input reads as it did. -/
def deflateLongUptoRow : OpenClaim := { program := "ythmgkggpipnalaa", sum := "2b9d151391d512c16ed53aa0a5bbb4b7251fc1cbd3abc39621701df4e33b22b5", func := "engraver/engraverlaw5.DeflateLong", spec := "deflateLong", unfollowed := true, recurses := true, apart := false, narrowed := true }
def DeflateLongUptoSaid : Prop := deflateLongUptoRow.holds Try.pinned (OpenSpec.upto deflateLongSpec)

/-- 'engraverlaw5.DeflateSame', WHERE WHAT IT READS IS OF BULK AT MOST 1048576: true; the input reads as it did. -/
def deflateSameUptoRow : OpenClaim := { program := "ythmgkggpipnalaa", sum := "2b9d151391d512c16ed53aa0a5bbb4b7251fc1cbd3abc39621701df4e33b22b5", func := "engraver/engraverlaw5.DeflateSame", spec := "deflateSame", unfollowed := true, recurses := true, apart := false, narrowed := true }
def DeflateSameUptoSaid : Prop := deflateSameUptoRow.holds Try.pinned (OpenSpec.upto deflateSameSpec)

/-- 'engraverlaw5.DeflateNoise', WHERE WHAT IT READS IS OF BULK AT MOST 1048576: true; the input reads as it did. -/
def deflateNoiseUptoRow : OpenClaim := { program := "ythmgkggpipnalaa", sum := "2b9d151391d512c16ed53aa0a5bbb4b7251fc1cbd3abc39621701df4e33b22b5", func := "engraver/engraverlaw5.DeflateNoise", spec := "deflateNoise", unfollowed := true, recurses := true, apart := false, narrowed := true }
def DeflateNoiseUptoSaid : Prop := deflateNoiseUptoRow.holds Try.pinned (OpenSpec.upto deflateNoiseSpec)

end Rows
end Go.Proofs.Ythmgkggpipnalaa
