/-
  No cell of these rows narrows 'for every input' (looked for: loops, veiled, ifaces, maps, wideKeys, modest, calm, conditions, laid).
  DERIVED. THE GIVEN ROWS OF THIS SEAT. 9 by the template 'for every input the law returns true; each argument reads behind the call as it read before'; 0 by the template 'total and deterministic' (their statements: YtookicfejdbddaaGreatTotals.lean).
  GIVEN WITH THE SEED: the statements are not yours to turn. If you find one false, say at which input.
  Laid BY PROGRAM, IN A SANDBOX (cutbox-rows.mjs): the forced cells as the released guide's own fill.sh prints them over the translation 809749640ada753b… (all of the seat's roots in one cut). By AI agents, Wed Nov 11 2026. No macro, syntax, notation, axiom, sorry.
-/
import Derived.Test.YtookicfejdbddaaGreatChecked
import GoSem.Claim
import GoSem.ClaimJoined
import GoSem.ClaimMapViews
import Derived.JoinedTies
import Derived.KernelRfl
namespace Go.Proofs.YtookicfejdbddaaGreat
/- THE CELL 'sum', in the pinned program and in every row, IS THE sha256 OF THE DUMP (.gsa) THAT YtookicfejdbddaaGreatProg.lean LOADS. Nothing in Lean hashes anything: it is a label: what it is worth is what the hold of that sum in a sandbox is worth. -/
noncomputable def Tryz.pinned : Pinned := { name := "ytookicfejdbddaagreat", sum := "809749640ada753b7f324484157801ea9bb3c2beb0c174bc0e7329a14626ec93", checked := Tryz.checked }
namespace Rows
def none {H : Type} : Left H := { results := [], args := [] }

/-- 'engravertop.TopHandles': WHATEVER THE INPUT: true; the input reads as it did. -/
def topHandlesSpec : ChangeSpec := { name := "topHandles", fn := fun _ => fun
  | [d] => { results := [.lit (.bool true)], args := [d] }
  | _ => none }
def topHandlesRow : OpenClaim := { program := "ytookicfejdbddaagreat", sum := "809749640ada753b7f324484157801ea9bb3c2beb0c174bc0e7329a14626ec93", func := "engraver/engravertop.TopHandles", spec := "topHandles", unfollowed := true, recurses := true, plainKeys := false, apart := false }
def TopHandlesSaid : Prop := topHandlesRow.holds Tryz.pinned (OpenSpec.ofChange topHandlesSpec)

/-- ITS FALSE NEIGHBOUR: 'it returns false'. Refute it at one input. -/
def topHandlesWrong : ChangeSpec := { name := "topHandles", fn := fun _ => fun
  | [d] => { results := [.lit (.bool false)], args := [d] }
  | _ => none }
def TopHandlesWrongFalsely : Prop := topHandlesRow.holds Tryz.pinned (OpenSpec.ofChange topHandlesWrong)

/-- 'engraverlaw20.SniffLooks': WHATEVER THE INPUT: true; the input reads as it did. -/
def sniffLooksSpec : ChangeSpec := { name := "sniffLooks", fn := fun _ => fun
  | [d] => { results := [.lit (.bool true)], args := [d] }
  | _ => none }
def sniffLooksRow : OpenClaim := { program := "ytookicfejdbddaagreat", sum := "809749640ada753b7f324484157801ea9bb3c2beb0c174bc0e7329a14626ec93", func := "engraver/engraverlaw20.SniffLooks", spec := "sniffLooks", unfollowed := true, recurses := true, plainKeys := false, apart := false }
def SniffLooksSaid : Prop := sniffLooksRow.holds Tryz.pinned (OpenSpec.ofChange sniffLooksSpec)

/-- ITS FALSE NEIGHBOUR: 'it returns false'. Refute it at one input. -/
def sniffLooksWrong : ChangeSpec := { name := "sniffLooks", fn := fun _ => fun
  | [d] => { results := [.lit (.bool false)], args := [d] }
  | _ => none }
def SniffLooksWrongFalsely : Prop := sniffLooksRow.holds Tryz.pinned (OpenSpec.ofChange sniffLooksWrong)

/-- 'engraverlaw20.SniffPeeks': WHATEVER THE INPUT: true; the input reads as it did. -/
def sniffPeeksSpec : ChangeSpec := { name := "sniffPeeks", fn := fun _ => fun
  | [d] => { results := [.lit (.bool true)], args := [d] }
  | _ => none }
def sniffPeeksRow : OpenClaim := { program := "ytookicfejdbddaagreat", sum := "809749640ada753b7f324484157801ea9bb3c2beb0c174bc0e7329a14626ec93", func := "engraver/engraverlaw20.SniffPeeks", spec := "sniffPeeks", unfollowed := true, recurses := true, plainKeys := false, apart := false }
def SniffPeeksSaid : Prop := sniffPeeksRow.holds Tryz.pinned (OpenSpec.ofChange sniffPeeksSpec)

/-- ITS FALSE NEIGHBOUR: 'it returns false'. Refute it at one input. -/
def sniffPeeksWrong : ChangeSpec := { name := "sniffPeeks", fn := fun _ => fun
  | [d] => { results := [.lit (.bool false)], args := [d] }
  | _ => none }
def SniffPeeksWrongFalsely : Prop := sniffPeeksRow.holds Tryz.pinned (OpenSpec.ofChange sniffPeeksWrong)

/-- 'engraverlaw21.JobTold': WHATEVER THE INPUT: true; the input reads as it did. -/
def jobToldSpec : ChangeSpec := { name := "jobTold", fn := fun _ => fun
  | [d1, d2, d3] => { results := [.lit (.bool true)], args := [d1, d2, d3] }
  | _ => none }
def jobToldRow : OpenClaim := { program := "ytookicfejdbddaagreat", sum := "809749640ada753b7f324484157801ea9bb3c2beb0c174bc0e7329a14626ec93", func := "engraver/engraverlaw21.JobTold", spec := "jobTold", unfollowed := true, recurses := true, plainKeys := false, apart := false }
def JobToldSaid : Prop := jobToldRow.holds Tryz.pinned (OpenSpec.ofChange jobToldSpec)

/-- ITS FALSE NEIGHBOUR: 'it returns false'. Refute it at one input. -/
def jobToldWrong : ChangeSpec := { name := "jobTold", fn := fun _ => fun
  | [d1, d2, d3] => { results := [.lit (.bool false)], args := [d1, d2, d3] }
  | _ => none }
def JobToldWrongFalsely : Prop := jobToldRow.holds Tryz.pinned (OpenSpec.ofChange jobToldWrong)

/-- 'engraverlaw24.StoreOrder': WHATEVER THE INPUT: true; the input reads as it did. -/
def storeOrderSpec : ChangeSpec := { name := "storeOrder", fn := fun _ => fun
  | [d1, d2] => { results := [.lit (.bool true)], args := [d1, d2] }
  | _ => none }
def storeOrderRow : OpenClaim := { program := "ytookicfejdbddaagreat", sum := "809749640ada753b7f324484157801ea9bb3c2beb0c174bc0e7329a14626ec93", func := "engraver/engraverlaw24.StoreOrder", spec := "storeOrder", unfollowed := true, recurses := true, plainKeys := false, apart := false }
def StoreOrderSaid : Prop := storeOrderRow.holds Tryz.pinned (OpenSpec.ofChange storeOrderSpec)

/-- ITS FALSE NEIGHBOUR: 'it returns false'. Refute it at one input. -/
def storeOrderWrong : ChangeSpec := { name := "storeOrder", fn := fun _ => fun
  | [d1, d2] => { results := [.lit (.bool false)], args := [d1, d2] }
  | _ => none }
def StoreOrderWrongFalsely : Prop := storeOrderRow.holds Tryz.pinned (OpenSpec.ofChange storeOrderWrong)

/-- 'engraverlaw26.ServerDrains': WHATEVER THE INPUT: true; the input reads as it did. -/
def serverDrainsSpec : ChangeSpec := { name := "serverDrains", fn := fun _ => fun
  | [d1, d2] => { results := [.lit (.bool true)], args := [d1, d2] }
  | _ => none }
def serverDrainsRow : OpenClaim := { program := "ytookicfejdbddaagreat", sum := "809749640ada753b7f324484157801ea9bb3c2beb0c174bc0e7329a14626ec93", func := "engraver/engraverlaw26.ServerDrains", spec := "serverDrains", unfollowed := true, recurses := true, plainKeys := false, apart := false }
def ServerDrainsSaid : Prop := serverDrainsRow.holds Tryz.pinned (OpenSpec.ofChange serverDrainsSpec)

/-- ITS FALSE NEIGHBOUR: 'it returns false'. Refute it at one input. -/
def serverDrainsWrong : ChangeSpec := { name := "serverDrains", fn := fun _ => fun
  | [d1, d2] => { results := [.lit (.bool false)], args := [d1, d2] }
  | _ => none }
def ServerDrainsWrongFalsely : Prop := serverDrainsRow.holds Tryz.pinned (OpenSpec.ofChange serverDrainsWrong)

/-- 'engraverlaw26.ServerQuota': WHATEVER THE INPUT: true; the input reads as it did. -/
def serverQuotaSpec : ChangeSpec := { name := "serverQuota", fn := fun _ => fun
  | [d1, d2, d3] => { results := [.lit (.bool true)], args := [d1, d2, d3] }
  | _ => none }
def serverQuotaRow : OpenClaim := { program := "ytookicfejdbddaagreat", sum := "809749640ada753b7f324484157801ea9bb3c2beb0c174bc0e7329a14626ec93", func := "engraver/engraverlaw26.ServerQuota", spec := "serverQuota", unfollowed := true, recurses := true, plainKeys := false, apart := false }
def ServerQuotaSaid : Prop := serverQuotaRow.holds Tryz.pinned (OpenSpec.ofChange serverQuotaSpec)

/-- ITS FALSE NEIGHBOUR: 'it returns false'. Refute it at one input. -/
def serverQuotaWrong : ChangeSpec := { name := "serverQuota", fn := fun _ => fun
  | [d1, d2, d3] => { results := [.lit (.bool false)], args := [d1, d2, d3] }
  | _ => none }
def ServerQuotaWrongFalsely : Prop := serverQuotaRow.holds Tryz.pinned (OpenSpec.ofChange serverQuotaWrong)

/-- 'engraverlaw26.ServerTicks': WHATEVER THE INPUT: true; the input reads as it did. -/
def serverTicksSpec : ChangeSpec := { name := "serverTicks", fn := fun _ => fun
  | [d1, d2] => { results := [.lit (.bool true)], args := [d1, d2] }
  | _ => none }
def serverTicksRow : OpenClaim := { program := "ytookicfejdbddaagreat", sum := "809749640ada753b7f324484157801ea9bb3c2beb0c174bc0e7329a14626ec93", func := "engraver/engraverlaw26.ServerTicks", spec := "serverTicks", unfollowed := true, recurses := true, plainKeys := false, apart := false }
def ServerTicksSaid : Prop := serverTicksRow.holds Tryz.pinned (OpenSpec.ofChange serverTicksSpec)

/-- ITS FALSE NEIGHBOUR: 'it returns false'. Refute it at one input. -/
def serverTicksWrong : ChangeSpec := { name := "serverTicks", fn := fun _ => fun
  | [d1, d2] => { results := [.lit (.bool false)], args := [d1, d2] }
  | _ => none }
def ServerTicksWrongFalsely : Prop := serverTicksRow.holds Tryz.pinned (OpenSpec.ofChange serverTicksWrong)

/-- 'engraverlaw26.ServerOpens': WHATEVER THE INPUT: true; the input reads as it did. -/
def serverOpensSpec : ChangeSpec := { name := "serverOpens", fn := fun _ => fun
  | [d1, d2] => { results := [.lit (.bool true)], args := [d1, d2] }
  | _ => none }
def serverOpensRow : OpenClaim := { program := "ytookicfejdbddaagreat", sum := "809749640ada753b7f324484157801ea9bb3c2beb0c174bc0e7329a14626ec93", func := "engraver/engraverlaw26.ServerOpens", spec := "serverOpens", inPlace := ["math.archFloor", "math.Float64bits", "math.Float64frombits", "math.archTrunc"], unfollowed := true, recurses := true, plainKeys := false, apart := false }
def ServerOpensSaid : Prop := serverOpensRow.holds Tryz.pinned (OpenSpec.ofChange serverOpensSpec)

/-- ITS FALSE NEIGHBOUR: 'it returns false'. Refute it at one input. -/
def serverOpensWrong : ChangeSpec := { name := "serverOpens", fn := fun _ => fun
  | [d1, d2] => { results := [.lit (.bool false)], args := [d1, d2] }
  | _ => none }
def ServerOpensWrongFalsely : Prop := serverOpensRow.holds Tryz.pinned (OpenSpec.ofChange serverOpensWrong)

/- THE SECOND FORM. 'bulk': how many values and letters a reading holds, each counted each time it is reached (what is shared counts as often as it is met; a slice's spare places count too). A statement '..UptoSaid' is the law's where the arguments, and the package variables that the reading takes, are together of bulk at most 1048576: NARROWER than '..Said'. Prove '..Said' where nothing that the law and all that it calls make is longer than what came in: it says more and counts as full. Else prove '..UptoSaid'. A law counts once. -/
mutual
def uptoBulk {H : Type} : DataW H → Nat
  | .lit (.string bytes) => bytes.length + 1
  | .lit _ => 1
  | .nil => 1
  | .ptr d => uptoBulk d + 1
  | .slice elems spare => uptoBulkAll elems + uptoBulkAll spare + 1
  | .agg parts => uptoBulkAll parts + 1
  | .iface _ d => uptoBulk d + 1
  | .map entries => uptoBulkEntries entries + 1
  | .held _ => 1
def uptoBulkAll {H : Type} : List (DataW H) → Nat
  | [] => 0
  | d :: r => uptoBulk d + uptoBulkAll r
def uptoBulkEntries {H : Type} : List (Lit × DataW H) → Nat
  | [] => 0
  | x :: r => uptoBulkEntry x + uptoBulkEntries r
def uptoBulkEntry {H : Type} : Lit × DataW H → Nat
  | (.string bytes, d) => bytes.length + uptoBulk d + 1
  | (_, d) => uptoBulk d + 1
 end
def uptoSmall : (H : Type) → List (DataW H) → Bool := fun _ ds => decide (uptoBulkAll ds ≤ 1048576)
def OpenSpec.upto (s : _root_.Go.ChangeSpec) : _root_.Go.OpenSpec := { _root_.Go.OpenSpec.ofChange s with cond := some uptoSmall }

/-- 'engravertop.TopHandles', WHERE WHAT IT READS IS OF BULK AT MOST 1048576: true; the input reads as it did. -/
def topHandlesUptoRow : OpenClaim := { program := "ytookicfejdbddaagreat", sum := "809749640ada753b7f324484157801ea9bb3c2beb0c174bc0e7329a14626ec93", func := "engraver/engravertop.TopHandles", spec := "topHandles", unfollowed := true, recurses := true, plainKeys := false, apart := false, narrowed := true }
def TopHandlesUptoSaid : Prop := topHandlesUptoRow.holds Tryz.pinned (OpenSpec.upto topHandlesSpec)

/-- 'engraverlaw20.SniffLooks', WHERE WHAT IT READS IS OF BULK AT MOST 1048576: true; the input reads as it did. -/
def sniffLooksUptoRow : OpenClaim := { program := "ytookicfejdbddaagreat", sum := "809749640ada753b7f324484157801ea9bb3c2beb0c174bc0e7329a14626ec93", func := "engraver/engraverlaw20.SniffLooks", spec := "sniffLooks", unfollowed := true, recurses := true, plainKeys := false, apart := false, narrowed := true }
def SniffLooksUptoSaid : Prop := sniffLooksUptoRow.holds Tryz.pinned (OpenSpec.upto sniffLooksSpec)

/-- 'engraverlaw20.SniffPeeks', WHERE WHAT IT READS IS OF BULK AT MOST 1048576: true; the input reads as it did. -/
def sniffPeeksUptoRow : OpenClaim := { program := "ytookicfejdbddaagreat", sum := "809749640ada753b7f324484157801ea9bb3c2beb0c174bc0e7329a14626ec93", func := "engraver/engraverlaw20.SniffPeeks", spec := "sniffPeeks", unfollowed := true, recurses := true, plainKeys := false, apart := false, narrowed := true }
def SniffPeeksUptoSaid : Prop := sniffPeeksUptoRow.holds Tryz.pinned (OpenSpec.upto sniffPeeksSpec)

/-- 'engraverlaw21.JobTold', WHERE WHAT IT READS IS OF BULK AT MOST 1048576: true; the input reads as it did. -/
def jobToldUptoRow : OpenClaim := { program := "ytookicfejdbddaagreat", sum := "809749640ada753b7f324484157801ea9bb3c2beb0c174bc0e7329a14626ec93", func := "engraver/engraverlaw21.JobTold", spec := "jobTold", unfollowed := true, recurses := true, plainKeys := false, apart := false, narrowed := true }
def JobToldUptoSaid : Prop := jobToldUptoRow.holds Tryz.pinned (OpenSpec.upto jobToldSpec)

/-- 'engraverlaw24.StoreOrder', WHERE WHAT IT READS IS OF BULK AT MOST 1048576: true; the input reads as it did. -/
def storeOrderUptoRow : OpenClaim := { program := "ytookicfejdbddaagreat", sum := "809749640ada753b7f324484157801ea9bb3c2beb0c174bc0e7329a14626ec93", func := "engraver/engraverlaw24.StoreOrder", spec := "storeOrder", unfollowed := true, recurses := true, plainKeys := false, apart := false, narrowed := true }
def StoreOrderUptoSaid : Prop := storeOrderUptoRow.holds Tryz.pinned (OpenSpec.upto storeOrderSpec)

/-- 'engraverlaw26.ServerDrains', WHERE WHAT IT READS IS OF BULK AT MOST 1048576: true; the input reads as it did. -/
def serverDrainsUptoRow : OpenClaim := { program := "ytookicfejdbddaagreat", sum := "809749640ada753b7f324484157801ea9bb3c2beb0c174bc0e7329a14626ec93", func := "engraver/engraverlaw26.ServerDrains", spec := "serverDrains", unfollowed := true, recurses := true, plainKeys := false, apart := false, narrowed := true }
def ServerDrainsUptoSaid : Prop := serverDrainsUptoRow.holds Tryz.pinned (OpenSpec.upto serverDrainsSpec)

/-- 'engraverlaw26.ServerQuota', WHERE WHAT IT READS IS OF BULK AT MOST 1048576: true; the input reads as it did. -/
def serverQuotaUptoRow : OpenClaim := { program := "ytookicfejdbddaagreat", sum := "809749640ada753b7f324484157801ea9bb3c2beb0c174bc0e7329a14626ec93", func := "engraver/engraverlaw26.ServerQuota", spec := "serverQuota", unfollowed := true, recurses := true, plainKeys := false, apart := false, narrowed := true }
def ServerQuotaUptoSaid : Prop := serverQuotaUptoRow.holds Tryz.pinned (OpenSpec.upto serverQuotaSpec)

/-- 'engraverlaw26.ServerTicks', WHERE WHAT IT READS IS OF BULK AT MOST 1048576: true; the input reads as it did. -/
def serverTicksUptoRow : OpenClaim := { program := "ytookicfejdbddaagreat", sum := "809749640ada753b7f324484157801ea9bb3c2beb0c174bc0e7329a14626ec93", func := "engraver/engraverlaw26.ServerTicks", spec := "serverTicks", unfollowed := true, recurses := true, plainKeys := false, apart := false, narrowed := true }
def ServerTicksUptoSaid : Prop := serverTicksUptoRow.holds Tryz.pinned (OpenSpec.upto serverTicksSpec)

/-- 'engraverlaw26.ServerOpens', WHERE WHAT IT READS IS OF BULK AT MOST 1048576: true; the input reads as it did. -/
def serverOpensUptoRow : OpenClaim := { program := "ytookicfejdbddaagreat", sum := "809749640ada753b7f324484157801ea9bb3c2beb0c174bc0e7329a14626ec93", func := "engraver/engraverlaw26.ServerOpens", spec := "serverOpens", inPlace := ["math.archFloor", "math.Float64bits", "math.Float64frombits", "math.archTrunc"], unfollowed := true, recurses := true, plainKeys := false, apart := false, narrowed := true }
def ServerOpensUptoSaid : Prop := serverOpensUptoRow.holds Tryz.pinned (OpenSpec.upto serverOpensSpec)

end Rows
end Go.Proofs.YtookicfejdbddaaGreat
