/- StoreOrder holds for every call: the jobs that wait are first in the order in which they came, whatever is dropped, cancelled, done or late between them; no conditions. -/
import Derived.Test.YtookicfejdbddaaGreatRows
import Derived.WalkKit
import Derived.Test.YtookicfejdbddaaGreatUtM
import Derived.Test.YtookicfejdbddaaGreatM4
import Derived.Test.YtookicfejdbddaaGreatSOrderJ
import Derived.HandedShaped
import Derived.ProofKit
import Derived.OpenShut
import Derived.ShutString
import Derived.ChangeOld
import Derived.Below
import Derived.Carry
namespace Go.Proofs.YtookicfejdbddaaGreat.storeOrder
open Go.Sl 
open Go.ChangeShapes Go.WideShapes Go.ChangeAt Go.RowKit
set_option linter.unusedVariables false

theorem own : ownKnob Tryz.prog.godebug = none := by kernel_rfl

theorem walk (y0 : Td.Ty (.sl 5 (.int .u8))) (y1 : Td.Ty (.int .u8)) (w : World) (w0 : Td.Holds w (.sl 5 (.int .u8)) y0) (w1 : Td.Holds w (.int .u8) y1)  (hsh : w.ShapedOpen Tryz.prog) :
    Calls Tryz.prog 7 #[.slice y0.p y0.l.length y0.cap, .int .u8 y1] w fun e w' => e = .returned (.bool true) ∧ Below w.heap.size w w' := by
  obtain ⟨f, hf, ht⟩ := tab hsh
  have hB : ∀ x ∈ y0.l, 0 ≤ x ∧ x < 256 := fun x hx => byteIn (w0.2.2 x hx)
  have hn := byteIn w1
  exact (l_order y0.p y0.cap y0.l _ (fun _ _ h => h) hB w0.1.1 y1 hn.1 hn.2 f hf).law (start2 (ints_start w0) ht) (fun v G h => h.1)


set_option maxRecDepth 100000 in
theorem lifted (os : Os) (started : os.Started) (H : Type) (enc : TypeId × Value → H) :
    ReturnsInHanded {} Tryz.checked os 7 .any (Rows.storeOrderSpec.pre6 enc Tryz.prog Tryz.f7 Rows.storeOrderRow.domain false) (Rows.storeOrderSpec.post enc Tryz.prog Tryz.f7 false true false false) := by
  refine returnsInHanded_of_change_shaped (C := Tryz.checked) own started (by kernel_rfl) Tryz.func7
    (ChangeSpec.witness6 (enc := enc) (C := Tryz.checked) false ⟨#[], #[.slice none 0 0, .int .u8 0], []⟩ 8 (by kernel_rfl) (by kernel_rfl) (by kernel_rfl) (by kernel_rfl)) ?_
  intro W base args ds gs before hval0 hW hcnd _ hsh _
  have hval : ∀ (j : Nat) t v, Tryz.f7.params[j]? = some t → args[j]? = some v → Value.okWide Tryz.prog W .any base t v := hval0
  have hW' := hW
  obtain ⟨p, q, hA0, hV, rfl, hfz, hnd⟩ := hW
  have hA : DataW.TrodAll enc Tryz.prog W 0 (fun _ => true) true Tryz.f7.params.toList args.toList ds p := hA0
  rw [Tryz.params7] at hA hval
  obtain ⟨v0, vs0, d0, ds0, p0, q0, hargs, rfl, rfl, h0, r0⟩ := trodAll_cons hA
  obtain ⟨v1, vs1, d1, ds1, p1, q1, rfl, rfl, rfl, h1, r1⟩ := trodAll_cons r0
  obtain ⟨rfl, rfl, rfl⟩ := trodAll_nil r1
  obtain rfl : args = #[v0, v1] := by cases args; simp_all
  obtain ⟨rfl, rfl⟩ := trodVars_none hV
  have k0 := h0
  have lt0 : ∀ x ∈ p0, x.block < W.heap.size := by obtain ⟨m, hm⟩ := k0; exact DataW.trod_lt m _ _ _ hm
  obtain ⟨y0, rfl, w0⟩ := Td.argV (.sl 5 (.int .u8)) (by kernel_rfl) (hval 0 28 v0 rfl rfl) h0
  have k1 := h1
  have lt1 : ∀ x ∈ p1, x.block < W.heap.size := by obtain ⟨m, hm⟩ := k1; exact DataW.trod_lt m _ _ _ hm
  obtain ⟨y1, rfl, w1⟩ := Td.argV (.int .u8) (by kernel_rfl) (hval 1 5 v1 rfl rfl) h1
  clear hA0 hval0
  refine (walk y0 y1 W w0 w1 hsh).mono fun e W' ⟨he, bel⟩ => ?_
  subst he
  exact ⟨_, rfl, _, _, _, [], _, [], hW', trodAll_mk1 (shut_bool Tryz.underlying4 _), (trodAll_cons_mk (Below.trod laidOut (by kernel_rfl) (of_decide_eq_true (by kernel_rfl)) k0 bel lt0) (trodAll_cons_mk (Below.trod laidOut (by kernel_rfl) (of_decide_eq_true (by kernel_rfl)) k1 bel lt1) trodAll_mk0)), rfl, bel.frame _, fun h => by cases h⟩

theorem over : Rows.storeOrderRow.holds Tryz.pinned (OpenSpec.ofChange Rows.storeOrderSpec) :=
  OpenClaim.holds_of_wide 7 Tryz.f7 rfl rfl rfl rfl rfl rfl rfl ⟨rfl, rfl, rfl, rfl, rfl⟩ rfl rfl rfl rfl rfl (by kernel_rfl) Tryz.func7 joined
    (of_decide_eq_true (by kernel_rfl)) (by unfold Func.isWrapper; first | (rw [if_pos (by decide +kernel)]; kernel_rfl) | (rw [if_neg (by decide +kernel)]; exact ⟨rfl, rfl⟩))
    (fun os started H enc _ => lifted os started H enc)

theorem proved : Rows.StoreOrderSaid := over
#print axioms proved
end Go.Proofs.YtookicfejdbddaaGreat.storeOrder
