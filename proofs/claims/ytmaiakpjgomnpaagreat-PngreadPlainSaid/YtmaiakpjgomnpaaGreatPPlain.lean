/- PngreadPlain holds for every call: any picture is read again as it was written; no conditions. -/
import Derived.Test.YtmaiakpjgomnpaaGreatRows
import Derived.WalkKit
import Derived.Test.YtmaiakpjgomnpaaGreatM9
import Derived.Test.YtmaiakpjgomnpaaGreatM1
import Derived.ProofKit
import Derived.OpenShut
import Derived.ShutString
import Derived.ChangeOld
import Derived.Below
import Derived.Carry
namespace Go.Proofs.YtmaiakpjgomnpaaGreat.pngreadPlain
open Go.Sl 
open Go.ChangeShapes Go.WideShapes Go.ChangeAt Go.RowKit
set_option linter.unusedVariables false

theorem own : ownKnob Tryz.prog.godebug = none := by kernel_rfl
theorem laidOut : laidOutB Tryz.prog = true := by kernel_rfl

theorem walk (y0 : Td.Ty (.st (.seq (.int .i64) (.seq (.int .i64) (.seq (.sl 62 (.int .u16)) .unit))))) (w : World) (w0 : Td.Holds w (.st (.seq (.int .i64) (.seq (.int .i64) (.seq (.sl 62 (.int .u16)) .unit)))) y0) :
    Calls Tryz.prog 5 #[(Td.val (.st (.seq (.int .i64) (.seq (.int .i64) (.seq (.sl 62 (.int .u16)) .unit)))) y0)] w fun e w' => e = .returned (.bool true) ∧ Below w.heap.size w w' := by
  obtain ⟨yw, yh, yp, yu⟩ := y0
  have hU : aa.nT yp.l := fun x hx => by
    have h : IntKind.u16.min ≤ x ∧ x ≤ IntKind.u16.max := w0.2.2.1.2.2 x hx
    rw [show IntKind.u16.min = 0 from rfl, show IntKind.u16.max = 65535 from rfl] at h
    omega
  exact (GM yw yh yp.p yp.cap yp.l w0.2.2.1.1.1 hU).law (I5 (Am w0.2.2.1)) (fun v G h => h.1)

set_option maxRecDepth 100000 in
theorem lifted (os : Os) (started : os.Started) (H : Type) (enc : TypeId × Value → H) :
    ReturnsInHanded {} Tryz.checked os 5 .any (Rows.pngreadPlainSpec.pre6 enc Tryz.prog Tryz.f5 Rows.pngreadPlainRow.domain false) (Rows.pngreadPlainSpec.post enc Tryz.prog Tryz.f5 false true false false) := by
  refine returnsInHanded_of_change (C := Tryz.checked) own started (by kernel_rfl) Tryz.func5
    (ChangeSpec.witness6 (enc := enc) (C := Tryz.checked) false ⟨#[], #[.agg #[.int .i64 0, .int .i64 0, .slice none 0 0]], []⟩ 8 (by kernel_rfl) (by kernel_rfl) (by kernel_rfl) (by kernel_rfl)) ?_
  intro W base args ds gs before hval0 hW hcnd _
  have hval : ∀ (j : Nat) t v, Tryz.f5.params[j]? = some t → args[j]? = some v → Value.okWide Tryz.prog W .any base t v := hval0
  have hW' := hW
  obtain ⟨p, q, hA0, hV, rfl, hfz, hnd⟩ := hW
  have hA : DataW.TrodAll enc Tryz.prog W 0 (fun _ => true) true Tryz.f5.params.toList args.toList ds p := hA0
  rw [Tryz.params5] at hA hval
  obtain ⟨v0, vs0, d0, ds0, p0, q0, hargs, rfl, rfl, h0, r0⟩ := trodAll_cons hA
  obtain ⟨rfl, rfl, rfl⟩ := trodAll_nil r0
  obtain rfl : args = #[v0] := by cases args; simp_all
  obtain ⟨rfl, rfl⟩ := trodVars_none hV
  have k0 := h0
  have lt0 : ∀ x ∈ p0, x.block < W.heap.size := by obtain ⟨m, hm⟩ := k0; exact DataW.trod_lt m _ _ _ hm
  obtain ⟨y0, rfl, w0⟩ := Td.OR (.st (.seq (.int .i64) (.seq (.int .i64) (.seq (.sl 62 (.int .u16)) .unit)))) (by kernel_rfl) (hval 0 26 v0 rfl rfl) h0
  clear hA0 hval0
  refine (walk y0 W w0).mono fun e W' ⟨he, bel⟩ => ?_
  subst he
  exact ⟨_, rfl, _, _, _, [], _, [], hW', trodAll_mk1 (shut_bool Tryz.underlying4 _), (trodAll_cons_mk (Below.trod laidOut (by kernel_rfl) (of_decide_eq_true (by kernel_rfl)) k0 bel lt0) trodAll_mk0), rfl, bel.frame _, fun h => by cases h⟩

theorem kC : Rows.pngreadPlainRow.holds Tryz.pinned (OpenSpec.ofChange Rows.pngreadPlainSpec) :=
  OpenClaim.holds_of_wide 5 Tryz.f5 rfl rfl rfl rfl rfl rfl rfl ⟨rfl, rfl, rfl, rfl, rfl⟩ rfl rfl rfl rfl rfl (by kernel_rfl) Tryz.func5 (by kernel_rfl)
    (of_decide_eq_true (by kernel_rfl)) (by unfold Func.isWrapper; first | (rw [if_pos (by decide +kernel)]; kernel_rfl) | (rw [if_neg (by decide +kernel)]; exact ⟨rfl, rfl⟩))
    (fun os started H enc _ => lifted os started H enc)

theorem proved : Rows.PngreadPlainSaid := kC
#print axioms proved
end Go.Proofs.YtmaiakpjgomnpaaGreat.pngreadPlain
