/- ZlibBack holds for every call: any bytes are opened as they were closed; the stream begins and ends as it must, and is not too long; no conditions. -/
import Derived.Test.YtmbljkghkcgejaaGreatRows
import Derived.WalkKit
import Derived.Test.YtmbljkghkcgejaaGreatM54
import Derived.Test.YtmbljkghkcgejaaGreatSl13
import Derived.Test.YtmbljkghkcgejaaGreatSlLim
import Derived.SizedLaws
import Derived.Test.YtmbljkghkcgejaaGreatSlOpen
import Derived.ProofKit
import Derived.OpenShut
import Derived.ShutString
import Derived.ChangeOld
import Derived.Below
import Derived.Carry
namespace Go.Proofs.YtmbljkghkcgejaaGreat.zlibBack
open Go.Sl 
open Go.ChangeShapes Go.WideShapes Go.ChangeAt Go.RowKit
set_option linter.unusedVariables false

theorem own : ownKnob Tryz.prog.godebug = none := by kernel_rfl
theorem laidOut : laidOutB Tryz.prog = true := by kernel_rfl

theorem walk (y0 : Td.Ty (.st (.seq (.sl 22 (.sl 5 (.int .u8))) (.seq (.sl 5 (.int .u8)) .unit)))) (w : World) (w0 : Td.Holds w (.st (.seq (.sl 22 (.sl 5 (.int .u8))) (.seq (.sl 5 (.int .u8)) .unit))) y0) (m0 : Td.uS (.st (.seq (.sl 22 (.sl 5 (.int .u8))) (.seq (.sl 5 (.int .u8)) .unit))) y0) :
    Calls Tryz.prog 6 #[(Td.val (.st (.seq (.sl 22 (.sl 5 (.int .u8))) (.seq (.sl 5 (.int .u8)) .unit))) y0)] w fun e w' => e = .returned (.bool true) ∧ Below w.heap.size w w' := by
  obtain ⟨yb, ym, yu⟩ := y0
  have hM : af.aY ym.l := fun x hx => yx (w0.2.1.2.2 x hx)
  have hl : ∀ y ∈ yb.l, y.cap ≤ 140737488351232 := fun y hy => (m0.1.2 y hy).1
  exact (Ko yb.p yb.cap yb.l ym.p ym.cap ym.l hM hl).law (Kc (A6 w0.1) (An w0.2.1)) (fun v G h => h.1)

set_option maxRecDepth 100000 in
theorem lifted (os : Os) (started : os.Started) (H : Type) (enc : TypeId × Value → H) :
    ReturnsInHanded {} Tryz.checked os 6 .any (Rows.zlibBackSpec.pre6 enc Tryz.prog Tryz.f6 Rows.zlibBackRow.domain false) (Rows.zlibBackSpec.post enc Tryz.prog Tryz.f6 false true false false) := by
  refine returnsInHanded_of_change_sized (C := Tryz.checked) own started (by kernel_rfl) Tryz.func6
    (ChangeSpec.witness6 (enc := enc) (C := Tryz.checked) false ⟨#[], #[.agg #[.slice none 0 0, .slice none 0 0]], []⟩ 8 (by kernel_rfl) (by kernel_rfl) (by kernel_rfl) (by kernel_rfl)) ?_
  intro W base args ds gs before hval0 hW hcnd hsz _
  have hval : ∀ (j : Nat) t v, Tryz.f6.params[j]? = some t → args[j]? = some v → Value.okWide Tryz.prog W .any base t v := hval0
  have hW' := hW
  obtain ⟨p, q, hA0, hV, rfl, hfz, hnd⟩ := hW
  have hA : DataW.TrodAll enc Tryz.prog W 0 (fun _ => true) true Tryz.f6.params.toList args.toList ds p := hA0
  rw [Tryz.params6] at hA hval
  obtain ⟨v0, vs0, d0, ds0, p0, q0, hargs, rfl, rfl, h0, r0⟩ := trodAll_cons hA
  obtain ⟨rfl, rfl, rfl⟩ := trodAll_nil r0
  obtain rfl : args = #[v0] := by cases args; simp_all
  obtain ⟨rfl, rfl⟩ := trodVars_none hV
  have z0 := lk (i := 0) (t := 32) (d := d0) (by kernel_rfl) rfl hsz
  have k0 := h0
  have lt0 : ∀ x ∈ p0, x.block < W.heap.size := by obtain ⟨m, hm⟩ := k0; exact DataW.trod_lt m _ _ _ hm
  obtain ⟨y0, rfl, w0⟩ := Td.MA (.st (.seq (.sl 22 (.sl 5 (.int .u8))) (.seq (.sl 5 (.int .u8)) .unit))) (by kernel_rfl) (hval 0 32 v0 rfl rfl) h0
  have m0 := Td.lim (.st (.seq (.sl 22 (.sl 5 (.int .u8))) (.seq (.sl 5 (.int .u8)) .unit))) (by kernel_rfl) (by kernel_rfl) h0 (by simp [Td.val, Td.cells, Value.cells]) w0 z0
  clear hA0 hval0
  refine (walk y0 W w0 m0).mono fun e W' ⟨he, bel⟩ => ?_
  subst he
  exact ⟨_, rfl, _, _, _, [], _, [], hW', trodAll_mk1 (shut_bool Tryz.underlying4 _), (trodAll_cons_mk (Below.trod laidOut (by kernel_rfl) (of_decide_eq_true (by kernel_rfl)) k0 bel lt0) trodAll_mk0), rfl, bel.frame _, fun h => by cases h⟩

theorem MI : Rows.zlibBackRow.holds Tryz.pinned (OpenSpec.ofChange Rows.zlibBackSpec) :=
  OpenClaim.holds_of_wide 6 Tryz.f6 rfl rfl rfl rfl rfl rfl rfl ⟨rfl, rfl, rfl, rfl, rfl⟩ rfl rfl rfl rfl rfl (by kernel_rfl) Tryz.func6 (by kernel_rfl)
    (of_decide_eq_true (by kernel_rfl)) (by unfold Func.isWrapper; first | (rw [if_pos (by decide +kernel)]; kernel_rfl) | (rw [if_neg (by decide +kernel)]; exact ⟨rfl, rfl⟩))
    (fun os started H enc _ => lifted os started H enc)

theorem proved : Rows.ZlibBackSaid := MI
#print axioms proved
end Go.Proofs.YtmbljkghkcgejaaGreat.zlibBack
