/- DeflateSlices holds for every call: however it is sliced the stream is the same, and ahead of its end nothing is told; no conditions. -/
import Derived.Test.YthmgkggpipnalaaRows
import Derived.WalkKit
import Derived.Test.YthmgkggpipnalaaM53
import Derived.Test.YthmgkggpipnalaaSl13
import Derived.Test.YthmgkggpipnalaaSlLim
import Derived.SizedLaws
import Derived.Test.YthmgkggpipnalaaSlOpen
import Derived.ProofKit
import Derived.OpenShut
import Derived.ShutString
import Derived.ChangeOld
import Derived.Below
import Derived.Carry
namespace Go.Proofs.Ythmgkggpipnalaa.deflateSlices
open Go.Sl 
open Go.ChangeShapes Go.WideShapes Go.ChangeAt Go.RowKit
set_option linter.unusedVariables false

theorem own : ownKnob Try.prog.godebug = none := by kernel_rfl
theorem laidOut : laidOutB Try.prog = true := by kernel_rfl

theorem walk (y0 : Td.Ty (.st (.seq (.sl 23 (.sl 5 (.int .u8))) (.seq (.sl 5 (.int .u8)) .unit)))) (y1 : Td.Ty (.sl 3 (.int .i64))) (w : World) (w0 : Td.Holds w (.st (.seq (.sl 23 (.sl 5 (.int .u8))) (.seq (.sl 5 (.int .u8)) .unit))) y0) (w1 : Td.Holds w (.sl 3 (.int .i64)) y1) (m0 : Td.Lim (.st (.seq (.sl 23 (.sl 5 (.int .u8))) (.seq (.sl 5 (.int .u8)) .unit))) y0) (m1 : Td.Lim (.sl 3 (.int .i64)) y1) :
    Calls Try.prog 4 #[(Td.val (.st (.seq (.sl 23 (.sl 5 (.int .u8))) (.seq (.sl 5 (.int .u8)) .unit))) y0), .slice y1.p y1.l.length y1.cap] w fun e w' => e = .returned (.bool true) ∧ Below w.heap.size w w' := by
  obtain ⟨yb0, ym0, yu0⟩ := y0
  have hM0 : BitP.Byt ym0.l := fun x hx => byte_in (w0.2.1.2.2 x hx)
  have hl0 : ∀ y ∈ yb0.l, y.cap ≤ 140737488351232 := fun y hy => (m0.1.2 y hy).1
  have hS : ∀ x ∈ y1.l, -9223372036854775808 ≤ x ∧ x ≤ 9223372036854775807 := fun x hx => w1.2.2 x hx
  have hSl : y1.l.length ≤ 9223372036854775807 := Nat.le_trans w1.1.1 w1.1.2
  exact (l_slices yb0.p yb0.cap yb0.l ym0.p ym0.cap ym0.l hM0 hl0 y1.p y1.cap y1.l hS hSl).law (start3 (deep_start w0.1) (ints_start w0.2.1) (ints_start w1)) (fun v G h => h.1)

set_option maxRecDepth 100000 in
theorem lifted (os : Os) (started : os.Started) (H : Type) (enc : TypeId × Value → H) :
    ReturnsInHanded {} Try.checked os 4 .any (Rows.deflateSlicesSpec.pre6 enc Try.prog Try.f4 Rows.deflateSlicesRow.domain false) (Rows.deflateSlicesSpec.post enc Try.prog Try.f4 false true false false) := by
  refine returnsInHanded_of_change_sized (C := Try.checked) own started (by kernel_rfl) Try.func4
    (ChangeSpec.witness6 (enc := enc) (C := Try.checked) false ⟨#[], #[.agg #[.slice none 0 0, .slice none 0 0], .slice none 0 0], []⟩ 8 (by kernel_rfl) (by kernel_rfl) (by kernel_rfl) (by kernel_rfl)) ?_
  intro W base args ds gs before hval0 hW hcnd hsz _
  have hval : ∀ (j : Nat) t v, Try.f4.params[j]? = some t → args[j]? = some v → Value.okWide Try.prog W .any base t v := hval0
  have hW' := hW
  obtain ⟨p, q, hA0, hV, rfl, hfz, hnd⟩ := hW
  have hA : DataW.TrodAll enc Try.prog W 0 (fun _ => true) true Try.f4.params.toList args.toList ds p := hA0
  rw [Try.params4] at hA hval
  obtain ⟨v0, vs0, d0, ds0, p0, q0, hargs, rfl, rfl, h0, r0⟩ := trodAll_cons hA
  obtain ⟨v1, vs1, d1, ds1, p1, q1, rfl, rfl, rfl, h1, r1⟩ := trodAll_cons r0
  obtain ⟨rfl, rfl, rfl⟩ := trodAll_nil r1
  obtain rfl : args = #[v0, v1] := by cases args; simp_all
  obtain ⟨rfl, rfl⟩ := trodVars_none hV
  have z0 := weightsEach_get (i := 0) (t := 25) (d := d0) (by kernel_rfl) rfl hsz
  have z1 := weightsEach_get (i := 1) (t := 34) (d := d1) (by kernel_rfl) rfl hsz
  have k0 := h0
  have lt0 : ∀ x ∈ p0, x.block < W.heap.size := by obtain ⟨m, hm⟩ := k0; exact DataW.trod_lt m _ _ _ hm
  obtain ⟨y0, rfl, w0⟩ := Td.argV (.st (.seq (.sl 23 (.sl 5 (.int .u8))) (.seq (.sl 5 (.int .u8)) .unit))) (by kernel_rfl) (hval 0 25 v0 rfl rfl) h0
  have m0 := Td.lim (.st (.seq (.sl 23 (.sl 5 (.int .u8))) (.seq (.sl 5 (.int .u8)) .unit))) (by kernel_rfl) (by kernel_rfl) h0 (by simp [Td.val, Td.cells, Value.cells]) w0 z0
  have k1 := h1
  have lt1 : ∀ x ∈ p1, x.block < W.heap.size := by obtain ⟨m, hm⟩ := k1; exact DataW.trod_lt m _ _ _ hm
  obtain ⟨y1, rfl, w1⟩ := Td.argV (.sl 3 (.int .i64)) (by kernel_rfl) (hval 1 34 v1 rfl rfl) h1
  have m1 := Td.lim (.sl 3 (.int .i64)) (by kernel_rfl) (by kernel_rfl) h1 (by simp [Td.val, Td.cells, Value.cells]) w1 z1
  clear hA0 hval0
  refine (walk y0 y1 W w0 w1 m0 m1).mono fun e W' ⟨he, bel⟩ => ?_
  subst he
  exact ⟨_, rfl, _, _, _, [], _, [], hW', trodAll_mk1 (shut_bool Try.underlying4 _), (trodAll_cons_mk (Below.trod laidOut (by kernel_rfl) (of_decide_eq_true (by kernel_rfl)) k0 bel lt0) (trodAll_cons_mk (Below.trod laidOut (by kernel_rfl) (of_decide_eq_true (by kernel_rfl)) k1 bel lt1) trodAll_mk0)), rfl, bel.frame _, fun h => by cases h⟩

theorem over : Rows.deflateSlicesRow.holds Try.pinned (OpenSpec.ofChange Rows.deflateSlicesSpec) :=
  OpenClaim.holds_of_wide 4 Try.f4 rfl rfl rfl rfl rfl rfl rfl ⟨rfl, rfl, rfl, rfl, rfl⟩ rfl rfl rfl rfl rfl (by kernel_rfl) Try.func4 (by kernel_rfl)
    (of_decide_eq_true (by kernel_rfl)) (by unfold Func.isWrapper; first | (rw [if_pos (by decide +kernel)]; kernel_rfl) | (rw [if_neg (by decide +kernel)]; exact ⟨rfl, rfl⟩))
    (fun os started H enc _ => lifted os started H enc)

theorem proved : Rows.DeflateSlicesSaid := over
#print axioms proved
end Go.Proofs.Ythmgkggpipnalaa.deflateSlices
