/- ZlibSum holds for every call: a stream with another sum, cut, or with a byte more is told so, and its head is looked at; no conditions. -/
import Derived.Test.YtmbljkghkcgejaaGreatRows
import Derived.WalkKit
import Derived.Test.YtmbljkghkcgejaaGreatM54
import Derived.Test.YtmbljkghkcgejaaGreatSl13
import Derived.Test.YtmbljkghkcgejaaGreatSl21
import Derived.Test.YtmbljkghkcgejaaGreatSlLim
import Derived.SizedLaws
import Derived.Test.YtmbljkghkcgejaaGreatSlOpen
import Derived.ProofKit
import Derived.OpenShut
import Derived.ShutString
import Derived.ChangeOld
import Derived.Below
import Derived.Carry
namespace Go.Proofs.YtmbljkghkcgejaaGreat.zlibSum
open Go.Sl 
open Go.ChangeShapes Go.WideShapes Go.ChangeAt Go.RowKit
set_option linter.unusedVariables false

theorem own : ownKnob Tryz.prog.godebug = none := by kernel_rfl
theorem laidOut : laidOutB Tryz.prog = true := by kernel_rfl

theorem walk (y0 : Td.Ty (.st (.seq (.sl 22 (.sl 5 (.int .u8))) (.seq (.sl 5 (.int .u8)) .unit)))) (y1 : Td.Ty (.arr 2 5 (.int .u8))) (w : World) (w0 : Td.Holds w (.st (.seq (.sl 22 (.sl 5 (.int .u8))) (.seq (.sl 5 (.int .u8)) .unit))) y0) (w1 : Td.Holds w (.arr 2 5 (.int .u8)) y1) (m0 : Td.Lim (.st (.seq (.sl 22 (.sl 5 (.int .u8))) (.seq (.sl 5 (.int .u8)) .unit))) y0) (m1 : Td.Lim (.arr 2 5 (.int .u8)) y1) :
    Calls Tryz.prog 4 #[(Td.val (.st (.seq (.sl 22 (.sl 5 (.int .u8))) (.seq (.sl 5 (.int .u8)) .unit))) y0), (Td.val (.arr 2 5 (.int .u8)) y1)] w fun e w' => e = .returned (.bool true) ∧ Below w.heap.size w w' := by
  obtain ⟨yb, ym, yu⟩ := y0
  have hM : BitP.Byt ym.l := fun x hx => byte_in (w0.2.1.2.2 x hx)
  have hl : ∀ y ∈ yb.l, y.cap ≤ 140737488351232 := fun y hy => (m0.1.2 y hy).1
  have e : Td.val (.arr 2 5 (.int .u8)) y1 = .agg (ints .u8 y1.1).toArray := by
    show Value.agg (y1.1.flatMap (fun x => [Value.int .u8 x])).toArray = _
    rw [flat_u8]
    rfl
  rw [e]
  have hN : BitP.Byt y1.1 := fun x hx => byte_in (w1 x hx)
  exact (l_sum yb.p yb.cap yb.l ym.p ym.cap ym.l hM hl y1.1 y1.2 hN).law (start2 (deep_start w0.1) (ints_start w0.2.1)) (fun v G h => h.1)

set_option maxRecDepth 100000 in
theorem lifted (os : Os) (started : os.Started) (H : Type) (enc : TypeId × Value → H) :
    ReturnsInHanded {} Tryz.checked os 4 .any (Rows.zlibSumSpec.pre6 enc Tryz.prog Tryz.f4 Rows.zlibSumRow.domain false) (Rows.zlibSumSpec.post enc Tryz.prog Tryz.f4 false true false false) := by
  refine returnsInHanded_of_change_sized (C := Tryz.checked) own started (by kernel_rfl) Tryz.func4
    (ChangeSpec.witness6 (enc := enc) (C := Tryz.checked) false ⟨#[], #[.agg #[.slice none 0 0, .slice none 0 0], .agg #[.int .u8 0, .int .u8 0]], []⟩ 8 (by kernel_rfl) (by kernel_rfl) (by kernel_rfl) (by kernel_rfl)) ?_
  intro W base args ds gs before hval0 hW hcnd hsz _
  have hval : ∀ (j : Nat) t v, Tryz.f4.params[j]? = some t → args[j]? = some v → Value.okWide Tryz.prog W .any base t v := hval0
  have hW' := hW
  obtain ⟨p, q, hA0, hV, rfl, hfz, hnd⟩ := hW
  have hA : DataW.TrodAll enc Tryz.prog W 0 (fun _ => true) true Tryz.f4.params.toList args.toList ds p := hA0
  rw [Tryz.params4] at hA hval
  obtain ⟨v0, vs0, d0, ds0, p0, q0, hargs, rfl, rfl, h0, r0⟩ := trodAll_cons hA
  obtain ⟨v1, vs1, d1, ds1, p1, q1, rfl, rfl, rfl, h1, r1⟩ := trodAll_cons r0
  obtain ⟨rfl, rfl, rfl⟩ := trodAll_nil r1
  obtain rfl : args = #[v0, v1] := by cases args; simp_all
  obtain ⟨rfl, rfl⟩ := trodVars_none hV
  have z0 := weightsEach_get (i := 0) (t := 32) (d := d0) (by kernel_rfl) rfl hsz
  have z1 := weightsEach_get (i := 1) (t := 33) (d := d1) (by kernel_rfl) rfl hsz
  have k0 := h0
  have lt0 : ∀ x ∈ p0, x.block < W.heap.size := by obtain ⟨m, hm⟩ := k0; exact DataW.trod_lt m _ _ _ hm
  obtain ⟨y0, rfl, w0⟩ := Td.argV (.st (.seq (.sl 22 (.sl 5 (.int .u8))) (.seq (.sl 5 (.int .u8)) .unit))) (by kernel_rfl) (hval 0 32 v0 rfl rfl) h0
  have m0 := Td.lim (.st (.seq (.sl 22 (.sl 5 (.int .u8))) (.seq (.sl 5 (.int .u8)) .unit))) (by kernel_rfl) (by kernel_rfl) h0 (by simp [Td.val, Td.cells, Value.cells]) w0 z0
  have k1 := h1
  have lt1 : ∀ x ∈ p1, x.block < W.heap.size := by obtain ⟨m, hm⟩ := k1; exact DataW.trod_lt m _ _ _ hm
  obtain ⟨y1, rfl, w1⟩ := Td.argV (.arr 2 5 (.int .u8)) (by kernel_rfl) (hval 1 33 v1 rfl rfl) h1
  have m1 := Td.lim (.arr 2 5 (.int .u8)) (by kernel_rfl) (by kernel_rfl) h1 (by simp [Td.val, Td.cells, Value.cells]) w1 z1
  clear hA0 hval0
  refine (walk y0 y1 W w0 w1 m0 m1).mono fun e W' ⟨he, bel⟩ => ?_
  subst he
  exact ⟨_, rfl, _, _, _, [], _, [], hW', trodAll_mk1 (shut_bool Tryz.underlying4 _), (trodAll_cons_mk (Below.trod laidOut (by kernel_rfl) (of_decide_eq_true (by kernel_rfl)) k0 bel lt0) (trodAll_cons_mk (Below.trod laidOut (by kernel_rfl) (of_decide_eq_true (by kernel_rfl)) k1 bel lt1) trodAll_mk0)), rfl, bel.frame _, fun h => by cases h⟩

theorem over : Rows.zlibSumRow.holds Tryz.pinned (OpenSpec.ofChange Rows.zlibSumSpec) :=
  OpenClaim.holds_of_wide 4 Tryz.f4 rfl rfl rfl rfl rfl rfl rfl ⟨rfl, rfl, rfl, rfl, rfl⟩ rfl rfl rfl rfl rfl (by kernel_rfl) Tryz.func4 (by kernel_rfl)
    (of_decide_eq_true (by kernel_rfl)) (by unfold Func.isWrapper; first | (rw [if_pos (by decide +kernel)]; kernel_rfl) | (rw [if_neg (by decide +kernel)]; exact ⟨rfl, rfl⟩))
    (fun os started H enc _ => lifted os started H enc)

theorem proved : Rows.ZlibSumSaid := over
#print axioms proved
end Go.Proofs.YtmbljkghkcgejaaGreat.zlibSum
