/- PngreadPlaces holds for every call: places of a table are read as its colours, and a place that is none is told; no conditions. -/
import Derived.Test.YtmaiakpjgomnpaaGreatRows
import Derived.WalkKit
import Derived.Test.YtmaiakpjgomnpaaGreatM9
import Derived.Test.YtmaiakpjgomnpaaGreatM1
import Derived.ProofKit
import Derived.OpenShut
import Derived.ShutString
import Derived.ChangeOld
import Derived.Below
import Derived.Carry
namespace Go.Proofs.YtmaiakpjgomnpaaGreat.pngreadPlaces
open Go.Sl 
open Go.ChangeShapes Go.WideShapes Go.ChangeAt Go.RowKit
set_option linter.unusedVariables false

theorem own : ownKnob Tryz.prog.godebug = none := by kernel_rfl
theorem laidOut : laidOutB Tryz.prog = true := by kernel_rfl

theorem walk (y0 : Td.Ty (.arr 2 22 (.sl 5 (.int .u8)))) (y1 : Td.Ty (.sl 116 (.arr 3 5 (.int .u8)))) (y2 : Td.Ty (.int .u8)) (w : World) (w0 : Td.Holds w (.arr 2 22 (.sl 5 (.int .u8))) y0) (w1 : Td.Holds w (.sl 116 (.arr 3 5 (.int .u8))) y1) (w2 : Td.Holds w (.int .u8) y2) :
    Calls Tryz.prog 8 #[(Td.val (.arr 2 22 (.sl 5 (.int .u8))) y0), .slice y1.p y1.l.length y1.cap, .int .u8 y2] w fun e w' => e = .returned (.bool true) ∧ Below w.heap.size w w' := by
  obtain ⟨a, b, hab, hv⟩ := Pu y0
  have wa : Td.Holds w (.sl 5 (.int .u8)) a := w0 a (by rw [hab]; simp)
  have wb : Td.Holds w (.sl 5 (.int .u8)) b := w0 b (by rw [hab]; simp)
  have hB : af.ak a.l := fun x hx => lR (wa.2.2 x hx)
  have hA : af.ak b.l := fun x hx => lR (wb.2.2 x hx)
  rw [hv]
  have hk := HE a.p a.cap a.l y1.p y1.cap (y1.l.map t3) b.p b.cap b.l y2 (lR w2) wa.1.1 (by rw [List.length_map]; exact w1.1.1) wb.1.1 hB (Nk w1) hA
  have hs := Nn (HR w1) (nU wb) (nU wb)
  rw [List.length_map] at hk
  have hs2 := hs.pV (nU wa)
  rw [List.length_map] at hs2
  exact hk.law hs2 (fun v G h => h.1)

set_option maxRecDepth 100000 in
theorem lifted (os : Os) (started : os.Started) (H : Type) (enc : TypeId × Value → H) :
    ReturnsInHanded {} Tryz.checked os 8 .any (Rows.pngreadPlacesSpec.pre6 enc Tryz.prog Tryz.f8 Rows.pngreadPlacesRow.domain false) (Rows.pngreadPlacesSpec.post enc Tryz.prog Tryz.f8 false true false false) := by
  refine returnsInHanded_of_change (C := Tryz.checked) own started (by kernel_rfl) Tryz.func8
    (ChangeSpec.witness6 (enc := enc) (C := Tryz.checked) false ⟨#[], #[.agg #[.slice none 0 0, .slice none 0 0], .slice none 0 0, .int .u8 0], []⟩ 8 (by kernel_rfl) (by kernel_rfl) (by kernel_rfl) (by kernel_rfl)) ?_
  intro W base args ds gs before hval0 hW hcnd _
  have hval : ∀ (j : Nat) t v, Tryz.f8.params[j]? = some t → args[j]? = some v → Value.okWide Tryz.prog W .any base t v := hval0
  have hW' := hW
  obtain ⟨p, q, hA0, hV, rfl, hfz, hnd⟩ := hW
  have hA : DataW.TrodAll enc Tryz.prog W 0 (fun _ => true) true Tryz.f8.params.toList args.toList ds p := hA0
  rw [Tryz.params8] at hA hval
  obtain ⟨v0, vs0, d0, ds0, p0, q0, hargs, rfl, rfl, h0, r0⟩ := trodAll_cons hA
  obtain ⟨v1, vs1, d1, ds1, p1, q1, rfl, rfl, rfl, h1, r1⟩ := trodAll_cons r0
  obtain ⟨v2, vs2, d2, ds2, p2, q2, rfl, rfl, rfl, h2, r2⟩ := trodAll_cons r1
  obtain ⟨rfl, rfl, rfl⟩ := trodAll_nil r2
  obtain rfl : args = #[v0, v1, v2] := by cases args; simp_all
  obtain ⟨rfl, rfl⟩ := trodVars_none hV
  have k0 := h0
  have lt0 : ∀ x ∈ p0, x.block < W.heap.size := by obtain ⟨m, hm⟩ := k0; exact DataW.trod_lt m _ _ _ hm
  obtain ⟨y0, rfl, w0⟩ := Td.HT (.arr 2 22 (.sl 5 (.int .u8))) (by kernel_rfl) (hval 0 72 v0 rfl rfl) h0
  have k1 := h1
  have lt1 : ∀ x ∈ p1, x.block < W.heap.size := by obtain ⟨m, hm⟩ := k1; exact DataW.trod_lt m _ _ _ hm
  obtain ⟨y1, rfl, w1⟩ := Td.HT (.sl 116 (.arr 3 5 (.int .u8))) (by kernel_rfl) (hval 1 73 v1 rfl rfl) h1
  have k2 := h2
  have lt2 : ∀ x ∈ p2, x.block < W.heap.size := by obtain ⟨m, hm⟩ := k2; exact DataW.trod_lt m _ _ _ hm
  obtain ⟨y2, rfl, w2⟩ := Td.HT (.int .u8) (by kernel_rfl) (hval 2 5 v2 rfl rfl) h2
  clear hA0 hval0
  refine (walk y0 y1 y2 W w0 w1 w2).mono fun e W' ⟨he, bel⟩ => ?_
  subst he
  exact ⟨_, rfl, _, _, _, [], _, [], hW', trodAll_mk1 (shut_bool Tryz.underlying4 _), (trodAll_cons_mk (Below.trod laidOut (by kernel_rfl) (of_decide_eq_true (by kernel_rfl)) k0 bel lt0) (trodAll_cons_mk (Below.trod laidOut (by kernel_rfl) (of_decide_eq_true (by kernel_rfl)) k1 bel lt1) (trodAll_cons_mk (Below.trod laidOut (by kernel_rfl) (of_decide_eq_true (by kernel_rfl)) k2 bel lt2) trodAll_mk0))), rfl, bel.frame _, fun h => by cases h⟩

theorem ka : Rows.pngreadPlacesRow.holds Tryz.pinned (OpenSpec.ofChange Rows.pngreadPlacesSpec) :=
  OpenClaim.holds_of_wide 8 Tryz.f8 rfl rfl rfl rfl rfl rfl rfl ⟨rfl, rfl, rfl, rfl, rfl⟩ rfl rfl rfl rfl rfl (by kernel_rfl) Tryz.func8 (by kernel_rfl)
    (of_decide_eq_true (by kernel_rfl)) (by unfold Func.isWrapper; first | (rw [if_pos (by decide +kernel)]; kernel_rfl) | (rw [if_neg (by decide +kernel)]; exact ⟨rfl, rfl⟩))
    (fun os started H enc _ => lifted os started H enc)

theorem proved : Rows.PngreadPlacesSaid := ka
#print axioms proved
end Go.Proofs.YtmaiakpjgomnpaaGreat.pngreadPlaces
