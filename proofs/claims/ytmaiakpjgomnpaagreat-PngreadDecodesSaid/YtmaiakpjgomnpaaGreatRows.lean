/-
  No cell of these rows narrows 'for every input' (looked for: loops, veiled, ifaces, maps, wideKeys, modest, calm, conditions, laid).
  DERIVED. THE GIVEN ROWS OF THIS SEAT. 10 by the template 'for every input the law returns true; each argument reads behind the call as it read before'; 0 by the template 'total and deterministic' (their statements: YtmaiakpjgomnpaaGreatTotals.lean).
  GIVEN WITH THE SEED: the statements are not yours to turn. If you find one false, say at which input.
  Laid BY PROGRAM, IN A SANDBOX (cutbox-rows.mjs): the forced cells as the released guide's own fill.sh prints them over the translation f5589c45c14a44a8… (all of the seat's roots in one cut). By AI agents, Wed Nov 11 2026. No macro, syntax, notation, axiom, sorry.
-/
import Derived.Test.YtmaiakpjgomnpaaGreatChecked
import GoSem.Claim
import GoSem.ClaimJoined
import GoSem.ClaimMapViews
import Derived.JoinedTies
import Derived.KernelRfl
namespace Go.Proofs.YtmaiakpjgomnpaaGreat
/- THE CELL 'sum', in the pinned program and in every row, IS THE sha256 OF THE DUMP (.gsa) THAT YtmaiakpjgomnpaaGreatProg.lean LOADS. Nothing in Lean hashes anything: it is a label: what it is worth is what the hold of that sum in a sandbox is worth. -/
noncomputable def Tryz.pinned : Pinned := { name := "ytmaiakpjgomnpaagreat", sum := "f5589c45c14a44a8411d0d49bba455aa99b4a642d5ffebd3807cc875f591e7b5", checked := Tryz.checked }
namespace Rows
def none {H : Type} : Left H := { results := [], args := [] }

/-- 'engraverlaw14.PngreadDecodes': WHATEVER THE INPUT: true; the input reads as it did. -/
def pngreadDecodesSpec : ChangeSpec := { name := "pngreadDecodes", fn := fun _ => fun
  | [d] => { results := [.lit (.bool true)], args := [d] }
  | _ => none }
def pngreadDecodesRow : OpenClaim := { program := "ytmaiakpjgomnpaagreat", sum := "f5589c45c14a44a8411d0d49bba455aa99b4a642d5ffebd3807cc875f591e7b5", func := "engraver/engraverlaw14.PngreadDecodes", spec := "pngreadDecodes", unfollowed := true, recurses := true, plainKeys := false, apart := false }
def PngreadDecodesSaid : Prop := pngreadDecodesRow.holds Tryz.pinned (OpenSpec.ofChange pngreadDecodesSpec)

/-- ITS FALSE NEIGHBOUR: 'it returns false'. Refute it at one input. -/
def pngreadDecodesWrong : ChangeSpec := { name := "pngreadDecodes", fn := fun _ => fun
  | [d] => { results := [.lit (.bool false)], args := [d] }
  | _ => none }
def PngreadDecodesWrongFalsely : Prop := pngreadDecodesRow.holds Tryz.pinned (OpenSpec.ofChange pngreadDecodesWrong)

/-- 'engraverlaw14.PngreadHeads': WHATEVER THE INPUT: true; the input reads as it did. -/
def pngreadHeadsSpec : ChangeSpec := { name := "pngreadHeads", fn := fun _ => fun
  | [d1, d2] => { results := [.lit (.bool true)], args := [d1, d2] }
  | _ => none }
def pngreadHeadsRow : OpenClaim := { program := "ytmaiakpjgomnpaagreat", sum := "f5589c45c14a44a8411d0d49bba455aa99b4a642d5ffebd3807cc875f591e7b5", func := "engraver/engraverlaw14.PngreadHeads", spec := "pngreadHeads", unfollowed := true, recurses := true, plainKeys := false, apart := false }
def PngreadHeadsSaid : Prop := pngreadHeadsRow.holds Tryz.pinned (OpenSpec.ofChange pngreadHeadsSpec)

/-- ITS FALSE NEIGHBOUR: 'it returns false'. Refute it at one input. -/
def pngreadHeadsWrong : ChangeSpec := { name := "pngreadHeads", fn := fun _ => fun
  | [d1, d2] => { results := [.lit (.bool false)], args := [d1, d2] }
  | _ => none }
def PngreadHeadsWrongFalsely : Prop := pngreadHeadsRow.holds Tryz.pinned (OpenSpec.ofChange pngreadHeadsWrong)

/-- 'engraverlaw14.PngreadPlain': WHATEVER THE INPUT: true; the input reads as it did. -/
def pngreadPlainSpec : ChangeSpec := { name := "pngreadPlain", fn := fun _ => fun
  | [d] => { results := [.lit (.bool true)], args := [d] }
  | _ => none }
def pngreadPlainRow : OpenClaim := { program := "ytmaiakpjgomnpaagreat", sum := "f5589c45c14a44a8411d0d49bba455aa99b4a642d5ffebd3807cc875f591e7b5", func := "engraver/engraverlaw14.PngreadPlain", spec := "pngreadPlain", unfollowed := true, recurses := true, plainKeys := false, apart := false }
def PngreadPlainSaid : Prop := pngreadPlainRow.holds Tryz.pinned (OpenSpec.ofChange pngreadPlainSpec)

/-- ITS FALSE NEIGHBOUR: 'it returns false'. Refute it at one input. -/
def pngreadPlainWrong : ChangeSpec := { name := "pngreadPlain", fn := fun _ => fun
  | [d] => { results := [.lit (.bool false)], args := [d] }
  | _ => none }
def PngreadPlainWrongFalsely : Prop := pngreadPlainRow.holds Tryz.pinned (OpenSpec.ofChange pngreadPlainWrong)

/-- 'engraverlaw14.PngreadGreys': WHATEVER THE INPUT: true; the input reads as it did. -/
def pngreadGreysSpec : ChangeSpec := { name := "pngreadGreys", fn := fun _ => fun
  | [d1, d2] => { results := [.lit (.bool true)], args := [d1, d2] }
  | _ => none }
def pngreadGreysRow : OpenClaim := { program := "ytmaiakpjgomnpaagreat", sum := "f5589c45c14a44a8411d0d49bba455aa99b4a642d5ffebd3807cc875f591e7b5", func := "engraver/engraverlaw14.PngreadGreys", spec := "pngreadGreys", unfollowed := true, recurses := true, plainKeys := false, apart := false }
def PngreadGreysSaid : Prop := pngreadGreysRow.holds Tryz.pinned (OpenSpec.ofChange pngreadGreysSpec)

/-- ITS FALSE NEIGHBOUR: 'it returns false'. Refute it at one input. -/
def pngreadGreysWrong : ChangeSpec := { name := "pngreadGreys", fn := fun _ => fun
  | [d1, d2] => { results := [.lit (.bool false)], args := [d1, d2] }
  | _ => none }
def PngreadGreysWrongFalsely : Prop := pngreadGreysRow.holds Tryz.pinned (OpenSpec.ofChange pngreadGreysWrong)

/-- 'engraverlaw14.PngreadLaced': WHATEVER THE INPUT: true; the input reads as it did. -/
def pngreadLacedSpec : ChangeSpec := { name := "pngreadLaced", fn := fun _ => fun
  | [d1, d2] => { results := [.lit (.bool true)], args := [d1, d2] }
  | _ => none }
def pngreadLacedRow : OpenClaim := { program := "ytmaiakpjgomnpaagreat", sum := "f5589c45c14a44a8411d0d49bba455aa99b4a642d5ffebd3807cc875f591e7b5", func := "engraver/engraverlaw14.PngreadLaced", spec := "pngreadLaced", unfollowed := true, recurses := true, plainKeys := false, apart := false }
def PngreadLacedSaid : Prop := pngreadLacedRow.holds Tryz.pinned (OpenSpec.ofChange pngreadLacedSpec)

/-- ITS FALSE NEIGHBOUR: 'it returns false'. Refute it at one input. -/
def pngreadLacedWrong : ChangeSpec := { name := "pngreadLaced", fn := fun _ => fun
  | [d1, d2] => { results := [.lit (.bool false)], args := [d1, d2] }
  | _ => none }
def PngreadLacedWrongFalsely : Prop := pngreadLacedRow.holds Tryz.pinned (OpenSpec.ofChange pngreadLacedWrong)

/-- 'engraverlaw14.PngreadPlaces': WHATEVER THE INPUT: true; the input reads as it did. -/
def pngreadPlacesSpec : ChangeSpec := { name := "pngreadPlaces", fn := fun _ => fun
  | [d1, d2, d3] => { results := [.lit (.bool true)], args := [d1, d2, d3] }
  | _ => none }
def pngreadPlacesRow : OpenClaim := { program := "ytmaiakpjgomnpaagreat", sum := "f5589c45c14a44a8411d0d49bba455aa99b4a642d5ffebd3807cc875f591e7b5", func := "engraver/engraverlaw14.PngreadPlaces", spec := "pngreadPlaces", unfollowed := true, recurses := true, plainKeys := false, apart := false }
def PngreadPlacesSaid : Prop := pngreadPlacesRow.holds Tryz.pinned (OpenSpec.ofChange pngreadPlacesSpec)

/-- ITS FALSE NEIGHBOUR: 'it returns false'. Refute it at one input. -/
def pngreadPlacesWrong : ChangeSpec := { name := "pngreadPlaces", fn := fun _ => fun
  | [d1, d2, d3] => { results := [.lit (.bool false)], args := [d1, d2, d3] }
  | _ => none }
def PngreadPlacesWrongFalsely : Prop := pngreadPlacesRow.holds Tryz.pinned (OpenSpec.ofChange pngreadPlacesWrong)

/-- 'engraverlaw14.PngreadTold': WHATEVER THE INPUT: true; the input reads as it did. -/
def pngreadToldSpec : ChangeSpec := { name := "pngreadTold", fn := fun _ => fun
  | [d1, d2] => { results := [.lit (.bool true)], args := [d1, d2] }
  | _ => none }
def pngreadToldRow : OpenClaim := { program := "ytmaiakpjgomnpaagreat", sum := "f5589c45c14a44a8411d0d49bba455aa99b4a642d5ffebd3807cc875f591e7b5", func := "engraver/engraverlaw14.PngreadTold", spec := "pngreadTold", unfollowed := true, recurses := true, plainKeys := false, apart := false }
def PngreadToldSaid : Prop := pngreadToldRow.holds Tryz.pinned (OpenSpec.ofChange pngreadToldSpec)

/-- ITS FALSE NEIGHBOUR: 'it returns false'. Refute it at one input. -/
def pngreadToldWrong : ChangeSpec := { name := "pngreadTold", fn := fun _ => fun
  | [d1, d2] => { results := [.lit (.bool false)], args := [d1, d2] }
  | _ => none }
def PngreadToldWrongFalsely : Prop := pngreadToldRow.holds Tryz.pinned (OpenSpec.ofChange pngreadToldWrong)

/-- 'engraverlaw15.PngwriteNoise': WHATEVER THE INPUT: true; the input reads as it did. -/
def pngwriteNoiseSpec : ChangeSpec := { name := "pngwriteNoise", fn := fun _ => fun
  | [d1, d2, d3] => { results := [.lit (.bool true)], args := [d1, d2, d3] }
  | _ => none }
def pngwriteNoiseRow : OpenClaim := { program := "ytmaiakpjgomnpaagreat", sum := "f5589c45c14a44a8411d0d49bba455aa99b4a642d5ffebd3807cc875f591e7b5", func := "engraver/engraverlaw15.PngwriteNoise", spec := "pngwriteNoise", unfollowed := true, recurses := true, plainKeys := false, apart := false }
def PngwriteNoiseSaid : Prop := pngwriteNoiseRow.holds Tryz.pinned (OpenSpec.ofChange pngwriteNoiseSpec)

/-- ITS FALSE NEIGHBOUR: 'it returns false'. Refute it at one input. -/
def pngwriteNoiseWrong : ChangeSpec := { name := "pngwriteNoise", fn := fun _ => fun
  | [d1, d2, d3] => { results := [.lit (.bool false)], args := [d1, d2, d3] }
  | _ => none }
def PngwriteNoiseWrongFalsely : Prop := pngwriteNoiseRow.holds Tryz.pinned (OpenSpec.ofChange pngwriteNoiseWrong)

/-- 'engraverlaw15.PngwriteFlat': WHATEVER THE INPUT: true; the input reads as it did. -/
def pngwriteFlatSpec : ChangeSpec := { name := "pngwriteFlat", fn := fun _ => fun
  | [d1, d2, d3] => { results := [.lit (.bool true)], args := [d1, d2, d3] }
  | _ => none }
def pngwriteFlatRow : OpenClaim := { program := "ytmaiakpjgomnpaagreat", sum := "f5589c45c14a44a8411d0d49bba455aa99b4a642d5ffebd3807cc875f591e7b5", func := "engraver/engraverlaw15.PngwriteFlat", spec := "pngwriteFlat", unfollowed := true, recurses := true, plainKeys := false, apart := false }
def PngwriteFlatSaid : Prop := pngwriteFlatRow.holds Tryz.pinned (OpenSpec.ofChange pngwriteFlatSpec)

/-- ITS FALSE NEIGHBOUR: 'it returns false'. Refute it at one input. -/
def pngwriteFlatWrong : ChangeSpec := { name := "pngwriteFlat", fn := fun _ => fun
  | [d1, d2, d3] => { results := [.lit (.bool false)], args := [d1, d2, d3] }
  | _ => none }
def PngwriteFlatWrongFalsely : Prop := pngwriteFlatRow.holds Tryz.pinned (OpenSpec.ofChange pngwriteFlatWrong)

/-- 'engraverlaw15.PngwriteBack': WHATEVER THE INPUT: true; the input reads as it did. -/
def pngwriteBackSpec : ChangeSpec := { name := "pngwriteBack", fn := fun _ => fun
  | [d] => { results := [.lit (.bool true)], args := [d] }
  | _ => none }
def pngwriteBackRow : OpenClaim := { program := "ytmaiakpjgomnpaagreat", sum := "f5589c45c14a44a8411d0d49bba455aa99b4a642d5ffebd3807cc875f591e7b5", func := "engraver/engraverlaw15.PngwriteBack", spec := "pngwriteBack", unfollowed := true, recurses := true, plainKeys := false, apart := false }
def PngwriteBackSaid : Prop := pngwriteBackRow.holds Tryz.pinned (OpenSpec.ofChange pngwriteBackSpec)

/-- ITS FALSE NEIGHBOUR: 'it returns false'. Refute it at one input. -/
def pngwriteBackWrong : ChangeSpec := { name := "pngwriteBack", fn := fun _ => fun
  | [d] => { results := [.lit (.bool false)], args := [d] }
  | _ => none }
def PngwriteBackWrongFalsely : Prop := pngwriteBackRow.holds Tryz.pinned (OpenSpec.ofChange pngwriteBackWrong)

/- THE SECOND FORM. 'bulk': how many values and letters a reading holds, each counted each time it is reached (what is shared counts as often as it is met; a slice's spare places count too). A statement '..UptoSaid' is the law's where the arguments, and the package variables that the reading takes, are together of bulk at most 1048576: NARROWER than '..Said'. Prove '..Said' where nothing that the law and all that it calls make is longer than what came in: it says more and counts as full. Else prove '..UptoSaid'. A law counts once. -/
mutual
def uptoBulk {H : Type} : DataW H → Nat
  | .lit (.string bytes) => bytes.length + 1
  | .lit _ => 1
  | .nil => 1
  | .ptr d => uptoBulk d + 1
  | .slice elems spare => uptoBulkAll elems + uptoBulkAll spare + 1
  | .agg parts => uptoBulkAll parts + 1
  | .iface _ d => uptoBulk d + 1
  | .map entries => uptoBulkEntries entries + 1
  | .held _ => 1
def uptoBulkAll {H : Type} : List (DataW H) → Nat
  | [] => 0
  | d :: r => uptoBulk d + uptoBulkAll r
def uptoBulkEntries {H : Type} : List (Lit × DataW H) → Nat
  | [] => 0
  | x :: r => uptoBulkEntry x + uptoBulkEntries r
def uptoBulkEntry {H : Type} : Lit × DataW H → Nat
  | (.string bytes, d) => bytes.length + uptoBulk d + 1
  | (_, d) => uptoBulk d + 1
 end
def uptoSmall : (H : Type) → List (DataW H) → Bool := fun _ ds => decide (uptoBulkAll ds ≤ 1048576)
def OpenSpec.upto (s : _root_.Go.ChangeSpec) : _root_.Go.OpenSpec := { _root_.Go.OpenSpec.ofChange s with cond := some uptoSmall }

/-- 'engraverlaw14.PngreadDecodes', WHERE WHAT IT READS IS OF BULK AT MOST 1048576: true; the input reads as it did. -/
def pngreadDecodesUptoRow : OpenClaim := { program := "ytmaiakpjgomnpaagreat", sum := "f5589c45c14a44a8411d0d49bba455aa99b4a642d5ffebd3807cc875f591e7b5", func := "engraver/engraverlaw14.PngreadDecodes", spec := "pngreadDecodes", unfollowed := true, recurses := true, plainKeys := false, apart := false, narrowed := true }
def PngreadDecodesUptoSaid : Prop := pngreadDecodesUptoRow.holds Tryz.pinned (OpenSpec.upto pngreadDecodesSpec)

/-- 'engraverlaw14.PngreadHeads', WHERE WHAT IT READS IS OF BULK AT MOST 1048576: true; the input reads as it did. -/
def pngreadHeadsUptoRow : OpenClaim := { program := "ytmaiakpjgomnpaagreat", sum := "f5589c45c14a44a8411d0d49bba455aa99b4a642d5ffebd3807cc875f591e7b5", func := "engraver/engraverlaw14.PngreadHeads", spec := "pngreadHeads", unfollowed := true, recurses := true, plainKeys := false, apart := false, narrowed := true }
def PngreadHeadsUptoSaid : Prop := pngreadHeadsUptoRow.holds Tryz.pinned (OpenSpec.upto pngreadHeadsSpec)

/-- 'engraverlaw14.PngreadPlain', WHERE WHAT IT READS IS OF BULK AT MOST 1048576: true; the input reads as it did. -/
def pngreadPlainUptoRow : OpenClaim := { program := "ytmaiakpjgomnpaagreat", sum := "f5589c45c14a44a8411d0d49bba455aa99b4a642d5ffebd3807cc875f591e7b5", func := "engraver/engraverlaw14.PngreadPlain", spec := "pngreadPlain", unfollowed := true, recurses := true, plainKeys := false, apart := false, narrowed := true }
def PngreadPlainUptoSaid : Prop := pngreadPlainUptoRow.holds Tryz.pinned (OpenSpec.upto pngreadPlainSpec)

/-- 'engraverlaw14.PngreadGreys', WHERE WHAT IT READS IS OF BULK AT MOST 1048576: true; the input reads as it did. -/
def pngreadGreysUptoRow : OpenClaim := { program := "ytmaiakpjgomnpaagreat", sum := "f5589c45c14a44a8411d0d49bba455aa99b4a642d5ffebd3807cc875f591e7b5", func := "engraver/engraverlaw14.PngreadGreys", spec := "pngreadGreys", unfollowed := true, recurses := true, plainKeys := false, apart := false, narrowed := true }
def PngreadGreysUptoSaid : Prop := pngreadGreysUptoRow.holds Tryz.pinned (OpenSpec.upto pngreadGreysSpec)

/-- 'engraverlaw14.PngreadLaced', WHERE WHAT IT READS IS OF BULK AT MOST 1048576: true; the input reads as it did. -/
def pngreadLacedUptoRow : OpenClaim := { program := "ytmaiakpjgomnpaagreat", sum := "f5589c45c14a44a8411d0d49bba455aa99b4a642d5ffebd3807cc875f591e7b5", func := "engraver/engraverlaw14.PngreadLaced", spec := "pngreadLaced", unfollowed := true, recurses := true, plainKeys := false, apart := false, narrowed := true }
def PngreadLacedUptoSaid : Prop := pngreadLacedUptoRow.holds Tryz.pinned (OpenSpec.upto pngreadLacedSpec)

/-- 'engraverlaw14.PngreadPlaces', WHERE WHAT IT READS IS OF BULK AT MOST 1048576: true; the input reads as it did. -/
def pngreadPlacesUptoRow : OpenClaim := { program := "ytmaiakpjgomnpaagreat", sum := "f5589c45c14a44a8411d0d49bba455aa99b4a642d5ffebd3807cc875f591e7b5", func := "engraver/engraverlaw14.PngreadPlaces", spec := "pngreadPlaces", unfollowed := true, recurses := true, plainKeys := false, apart := false, narrowed := true }
def PngreadPlacesUptoSaid : Prop := pngreadPlacesUptoRow.holds Tryz.pinned (OpenSpec.upto pngreadPlacesSpec)

/-- 'engraverlaw14.PngreadTold', WHERE WHAT IT READS IS OF BULK AT MOST 1048576: true; the input reads as it did. -/
def pngreadToldUptoRow : OpenClaim := { program := "ytmaiakpjgomnpaagreat", sum := "f5589c45c14a44a8411d0d49bba455aa99b4a642d5ffebd3807cc875f591e7b5", func := "engraver/engraverlaw14.PngreadTold", spec := "pngreadTold", unfollowed := true, recurses := true, plainKeys := false, apart := false, narrowed := true }
def PngreadToldUptoSaid : Prop := pngreadToldUptoRow.holds Tryz.pinned (OpenSpec.upto pngreadToldSpec)

/-- 'engraverlaw15.PngwriteNoise', WHERE WHAT IT READS IS OF BULK AT MOST 1048576: true; the input reads as it did. -/
def pngwriteNoiseUptoRow : OpenClaim := { program := "ytmaiakpjgomnpaagreat", sum := "f5589c45c14a44a8411d0d49bba455aa99b4a642d5ffebd3807cc875f591e7b5", func := "engraver/engraverlaw15.PngwriteNoise", spec := "pngwriteNoise", unfollowed := true, recurses := true, plainKeys := false, apart := false, narrowed := true }
def PngwriteNoiseUptoSaid : Prop := pngwriteNoiseUptoRow.holds Tryz.pinned (OpenSpec.upto pngwriteNoiseSpec)

/-- 'engraverlaw15.PngwriteFlat', WHERE WHAT IT READS IS OF BULK AT MOST 1048576: true; the input reads as it did. -/
def pngwriteFlatUptoRow : OpenClaim := { program := "ytmaiakpjgomnpaagreat", sum := "f5589c45c14a44a8411d0d49bba455aa99b4a642d5ffebd3807cc875f591e7b5", func := "engraver/engraverlaw15.PngwriteFlat", spec := "pngwriteFlat", unfollowed := true, recurses := true, plainKeys := false, apart := false, narrowed := true }
def PngwriteFlatUptoSaid : Prop := pngwriteFlatUptoRow.holds Tryz.pinned (OpenSpec.upto pngwriteFlatSpec)

/-- 'engraverlaw15.PngwriteBack', WHERE WHAT IT READS IS OF BULK AT MOST 1048576: true; the input reads as it did. -/
def pngwriteBackUptoRow : OpenClaim := { program := "ytmaiakpjgomnpaagreat", sum := "f5589c45c14a44a8411d0d49bba455aa99b4a642d5ffebd3807cc875f591e7b5", func := "engraver/engraverlaw15.PngwriteBack", spec := "pngwriteBack", unfollowed := true, recurses := true, plainKeys := false, apart := false, narrowed := true }
def PngwriteBackUptoSaid : Prop := pngwriteBackUptoRow.holds Tryz.pinned (OpenSpec.upto pngwriteBackSpec)

end Rows
end Go.Proofs.YtmaiakpjgomnpaaGreat
