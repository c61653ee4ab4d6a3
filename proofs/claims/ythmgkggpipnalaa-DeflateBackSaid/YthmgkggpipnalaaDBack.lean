/- DeflateBack holds for every call: what is written is read, and is hardly longer; no conditions. -/
import Derived.Test.YthmgkggpipnalaaRows
import Derived.WalkKit
import Derived.Test.YthmgkggpipnalaaM53
import Derived.Test.YthmgkggpipnalaaSl13
import Derived.Test.YthmgkggpipnalaaSlLim
import Derived.SizedLaws
import Derived.Test.YthmgkggpipnalaaSlOpen
import Derived.ProofKit
import Derived.OpenShut
import Derived.ShutString
import Derived.ChangeOld
import Derived.Below
import Derived.Carry
namespace Go.Proofs.Ythmgkggpipnalaa.deflateBack
open Go.Sl 
open Go.ChangeShapes Go.WideShapes Go.ChangeAt Go.RowKit
set_option linter.unusedVariables false

theorem own : ownKnob Try.prog.godebug = none := by kernel_rfl
theorem laidOut : laidOutB Try.prog = true := by kernel_rfl

theorem walk (y0 : Td.Ty (.st (.seq (.sl 23 (.sl 5 (.int .u8))) (.seq (.sl 5 (.int .u8)) .unit)))) (w : World) (w0 : Td.Holds w (.st (.seq (.sl 23 (.sl 5 (.int .u8))) (.seq (.sl 5 (.int .u8)) .unit))) y0) (m0 : Td.Lim (.st (.seq (.sl 23 (.sl 5 (.int .u8))) (.seq (.sl 5 (.int .u8)) .unit))) y0) :
    Calls Try.prog 3 #[(Td.val (.st (.seq (.sl 23 (.sl 5 (.int .u8))) (.seq (.sl 5 (.int .u8)) .unit))) y0)] w fun e w' => e = .returned (.bool true) ∧ Below w.heap.size w w' := by
  obtain ⟨yb, ym, yu⟩ := y0
  have hM : BitP.Byt ym.l := fun x hx => byte_in (w0.2.1.2.2 x hx)
  have hl : ∀ y ∈ yb.l, y.cap ≤ 140737488351232 := fun y hy => (m0.1.2 y hy).1
  exact (l_back yb.p yb.cap yb.l ym.p ym.cap ym.l hM hl).law (start2 (deep_start w0.1) (ints_start w0.2.1)) (fun v G h => h.1)

set_option maxRecDepth 100000 in
theorem lifted (os : Os) (started : os.Started) (H : Type) (enc : TypeId × Value → H) :
    ReturnsInHanded {} Try.checked os 3 .any (Rows.deflateBackSpec.pre6 enc Try.prog Try.f3 Rows.deflateBackRow.domain false) (Rows.deflateBackSpec.post enc Try.prog Try.f3 false true false false) := by
  refine returnsInHanded_of_change_sized (C := Try.checked) own started (by kernel_rfl) Try.func3
    (ChangeSpec.witness6 (enc := enc) (C := Try.checked) false ⟨#[], #[.agg #[.slice none 0 0, .slice none 0 0]], []⟩ 8 (by kernel_rfl) (by kernel_rfl) (by kernel_rfl) (by kernel_rfl)) ?_
  intro W base args ds gs before hval0 hW hcnd hsz _
  have hval : ∀ (j : Nat) t v, Try.f3.params[j]? = some t → args[j]? = some v → Value.okWide Try.prog W .any base t v := hval0
  have hW' := hW
  obtain ⟨p, q, hA0, hV, rfl, hfz, hnd⟩ := hW
  have hA : DataW.TrodAll enc Try.prog W 0 (fun _ => true) true Try.f3.params.toList args.toList ds p := hA0
  rw [Try.params3] at hA hval
  obtain ⟨v0, vs0, d0, ds0, p0, q0, hargs, rfl, rfl, h0, r0⟩ := trodAll_cons hA
  obtain ⟨rfl, rfl, rfl⟩ := trodAll_nil r0
  obtain rfl : args = #[v0] := by cases args; simp_all
  obtain ⟨rfl, rfl⟩ := trodVars_none hV
  have z0 := weightsEach_get (i := 0) (t := 25) (d := d0) (by kernel_rfl) rfl hsz
  have k0 := h0
  have lt0 : ∀ x ∈ p0, x.block < W.heap.size := by obtain ⟨m, hm⟩ := k0; exact DataW.trod_lt m _ _ _ hm
  obtain ⟨y0, rfl, w0⟩ := Td.argV (.st (.seq (.sl 23 (.sl 5 (.int .u8))) (.seq (.sl 5 (.int .u8)) .unit))) (by kernel_rfl) (hval 0 25 v0 rfl rfl) h0
  have m0 := Td.lim (.st (.seq (.sl 23 (.sl 5 (.int .u8))) (.seq (.sl 5 (.int .u8)) .unit))) (by kernel_rfl) (by kernel_rfl) h0 (by simp [Td.val, Td.cells, Value.cells]) w0 z0
  clear hA0 hval0
  refine (walk y0 W w0 m0).mono fun e W' ⟨he, bel⟩ => ?_
  subst he
  exact ⟨_, rfl, _, _, _, [], _, [], hW', trodAll_mk1 (shut_bool Try.underlying4 _), (trodAll_cons_mk (Below.trod laidOut (by kernel_rfl) (of_decide_eq_true (by kernel_rfl)) k0 bel lt0) trodAll_mk0), rfl, bel.frame _, fun h => by cases h⟩

theorem over : Rows.deflateBackRow.holds Try.pinned (OpenSpec.ofChange Rows.deflateBackSpec) :=
  OpenClaim.holds_of_wide 3 Try.f3 rfl rfl rfl rfl rfl rfl rfl ⟨rfl, rfl, rfl, rfl, rfl⟩ rfl rfl rfl rfl rfl (by kernel_rfl) Try.func3 (by kernel_rfl)
    (of_decide_eq_true (by kernel_rfl)) (by unfold Func.isWrapper; first | (rw [if_pos (by decide +kernel)]; kernel_rfl) | (rw [if_neg (by decide +kernel)]; exact ⟨rfl, rfl⟩))
    (fun os started H enc _ => lifted os started H enc)

theorem proved : Rows.DeflateBackSaid := over
#print axioms proved
end Go.Proofs.Ythmgkggpipnalaa.deflateBack
