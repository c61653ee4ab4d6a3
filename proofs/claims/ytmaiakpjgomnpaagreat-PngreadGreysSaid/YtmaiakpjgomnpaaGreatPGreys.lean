/- PngreadGreys holds for every call: a row of grey of few bits is read as it was written; no conditions. -/
import Derived.Test.YtmaiakpjgomnpaaGreatRows
import Derived.WalkKit
import Derived.Test.YtmaiakpjgomnpaaGreatM9
import Derived.Test.YtmaiakpjgomnpaaGreatM1
import Derived.ProofKit
import Derived.OpenShut
import Derived.ShutString
import Derived.ChangeOld
import Derived.Below
import Derived.Carry
namespace Go.Proofs.YtmaiakpjgomnpaaGreat.pngreadGreys
open Go.Sl 
open Go.ChangeShapes Go.WideShapes Go.ChangeAt Go.RowKit
set_option linter.unusedVariables false

theorem own : ownKnob Tryz.prog.godebug = none := by kernel_rfl
theorem laidOut : laidOutB Tryz.prog = true := by kernel_rfl

theorem walk (y0 : Td.Ty (.sl 5 (.int .u8))) (y1 : Td.Ty (.arr 4 5 (.int .u8))) (w : World) (w0 : Td.Holds w (.sl 5 (.int .u8)) y0) (w1 : Td.Holds w (.arr 4 5 (.int .u8)) y1) :
    Calls Tryz.prog 6 #[.slice y0.p y0.l.length y0.cap, (Td.val (.arr 4 5 (.int .u8)) y1)] w fun e w' => e = .returned (.bool true) ∧ Below w.heap.size w w' := by
  have hB : af.an y0.l := fun x hx => zw (w0.2.2 x hx)
  have hN : af.an y1.1 := fun x hx => zw (w1 x hx)
  have ha : Td.val (.arr 4 5 (.int .u8)) y1 = Value.agg (ints .u8 y1.1).toArray := by
    show Value.agg (y1.1.flatMap fun x => [Value.int .u8 x]).toArray = _
    rw [ints, List.map_eq_flatMap]
  rw [ha]
  exact (Lr y0.p y0.cap y0.l y1.1 w0.1.1 hB hN y1.2).law (Ma (BS w0)) (fun v G h => h.1)

set_option maxRecDepth 100000 in
theorem lifted (os : Os) (started : os.Started) (H : Type) (enc : TypeId × Value → H) :
    ReturnsInHanded {} Tryz.checked os 6 .any (Rows.pngreadGreysSpec.pre6 enc Tryz.prog Tryz.f6 Rows.pngreadGreysRow.domain false) (Rows.pngreadGreysSpec.post enc Tryz.prog Tryz.f6 false true false false) := by
  refine returnsInHanded_of_change (C := Tryz.checked) own started (by kernel_rfl) Tryz.func6
    (ChangeSpec.witness6 (enc := enc) (C := Tryz.checked) false ⟨#[], #[.slice none 0 0, .agg #[.int .u8 0, .int .u8 0, .int .u8 0, .int .u8 0]], []⟩ 8 (by kernel_rfl) (by kernel_rfl) (by kernel_rfl) (by kernel_rfl)) ?_
  intro W base args ds gs before hval0 hW hcnd _
  have hval : ∀ (j : Nat) t v, Tryz.f6.params[j]? = some t → args[j]? = some v → Value.okWide Tryz.prog W .any base t v := hval0
  have hW' := hW
  obtain ⟨p, q, hA0, hV, rfl, hfz, hnd⟩ := hW
  have hA : DataW.TrodAll enc Tryz.prog W 0 (fun _ => true) true Tryz.f6.params.toList args.toList ds p := hA0
  rw [Tryz.params6] at hA hval
  obtain ⟨v0, vs0, d0, ds0, p0, q0, hargs, rfl, rfl, h0, r0⟩ := trodAll_cons hA
  obtain ⟨v1, vs1, d1, ds1, p1, q1, rfl, rfl, rfl, h1, r1⟩ := trodAll_cons r0
  obtain ⟨rfl, rfl, rfl⟩ := trodAll_nil r1
  obtain rfl : args = #[v0, v1] := by cases args; simp_all
  obtain ⟨rfl, rfl⟩ := trodVars_none hV
  have k0 := h0
  have lt0 : ∀ x ∈ p0, x.block < W.heap.size := by obtain ⟨m, hm⟩ := k0; exact DataW.trod_lt m _ _ _ hm
  obtain ⟨y0, rfl, w0⟩ := Td.Rw (.sl 5 (.int .u8)) (by kernel_rfl) (hval 0 22 v0 rfl rfl) h0
  have k1 := h1
  have lt1 : ∀ x ∈ p1, x.block < W.heap.size := by obtain ⟨m, hm⟩ := k1; exact DataW.trod_lt m _ _ _ hm
  obtain ⟨y1, rfl, w1⟩ := Td.Rw (.arr 4 5 (.int .u8)) (by kernel_rfl) (hval 1 46 v1 rfl rfl) h1
  clear hA0 hval0
  refine (walk y0 y1 W w0 w1).mono fun e W' ⟨he, bel⟩ => ?_
  subst he
  exact ⟨_, rfl, _, _, _, [], _, [], hW', trodAll_mk1 (shut_bool Tryz.underlying4 _), (trodAll_cons_mk (Below.trod laidOut (by kernel_rfl) (of_decide_eq_true (by kernel_rfl)) k0 bel lt0) (trodAll_cons_mk (Below.trod laidOut (by kernel_rfl) (of_decide_eq_true (by kernel_rfl)) k1 bel lt1) trodAll_mk0)), rfl, bel.frame _, fun h => by cases h⟩

theorem j0 : Rows.pngreadGreysRow.holds Tryz.pinned (OpenSpec.ofChange Rows.pngreadGreysSpec) :=
  OpenClaim.holds_of_wide 6 Tryz.f6 rfl rfl rfl rfl rfl rfl rfl ⟨rfl, rfl, rfl, rfl, rfl⟩ rfl rfl rfl rfl rfl (by kernel_rfl) Tryz.func6 (by kernel_rfl)
    (of_decide_eq_true (by kernel_rfl)) (by unfold Func.isWrapper; first | (rw [if_pos (by decide +kernel)]; kernel_rfl) | (rw [if_neg (by decide +kernel)]; exact ⟨rfl, rfl⟩))
    (fun os started H enc _ => lifted os started H enc)

theorem proved : Rows.PngreadGreysSaid := j0
#print axioms proved
end Go.Proofs.YtmaiakpjgomnpaaGreat.pngreadGreys
