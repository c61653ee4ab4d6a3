/- SniffLooks holds for every call: any bytes are the same, as great, cost and are charged the same to both; no conditions. -/
import Derived.Test.YtookicfejdbddaaGreatRows
import Derived.WalkKit
import Derived.Test.YtookicfejdbddaaGreatUsE
import Derived.Test.YtookicfejdbddaaGreatM4
import Derived.Test.YtookicfejdbddaaGreatSLooksJ
import Derived.ProofKit
import Derived.OpenShut
import Derived.ShutString
import Derived.ChangeOld
import Derived.Below
import Derived.Carry
namespace Go.Proofs.YtookicfejdbddaaGreat.sniffLooks
open Go.Sl 
open Go.ChangeShapes Go.WideShapes Go.ChangeAt Go.RowKit
set_option linter.unusedVariables false

theorem own : ownKnob Tryz.prog.godebug = none := by kernel_rfl

theorem walk (y0 : Td.Ty (.sl 5 (.int .u8))) (w : World) (w0 : Td.Holds w (.sl 5 (.int .u8)) y0) :
    Calls Tryz.prog 4 #[.slice y0.p y0.l.length y0.cap] w fun e w' => e = .returned (.bool true) ∧ Below w.heap.size w w' := by
  have hB : BitP.Byt y0.l := fun x hx => UsP.byte_in (w0.2.2 x hx)
  exact (l_looks y0.p y0.cap y0.l _ (fun _ _ h => h) hB w0.1.1).law (start1 (ints_start w0)) (fun v G h => h.1)

set_option maxRecDepth 100000 in
theorem lifted (os : Os) (started : os.Started) (H : Type) (enc : TypeId × Value → H) :
    ReturnsInHanded {} Tryz.checked os 4 .any (Rows.sniffLooksSpec.pre6 enc Tryz.prog Tryz.f4 Rows.sniffLooksRow.domain false) (Rows.sniffLooksSpec.post enc Tryz.prog Tryz.f4 false true false false) := by
  refine returnsInHanded_of_change (C := Tryz.checked) own started (by kernel_rfl) Tryz.func4
    (ChangeSpec.witness6 (enc := enc) (C := Tryz.checked) false ⟨#[], #[.slice none 0 0], []⟩ 8 (by kernel_rfl) (by kernel_rfl) (by kernel_rfl) (by kernel_rfl)) ?_
  intro W base args ds gs before hval0 hW hcnd _
  have hval : ∀ (j : Nat) t v, Tryz.f4.params[j]? = some t → args[j]? = some v → Value.okWide Tryz.prog W .any base t v := hval0
  have hW' := hW
  obtain ⟨p, q, hA0, hV, rfl, hfz, hnd⟩ := hW
  have hA : DataW.TrodAll enc Tryz.prog W 0 (fun _ => true) true Tryz.f4.params.toList args.toList ds p := hA0
  rw [Tryz.params4] at hA hval
  obtain ⟨v0, vs0, d0, ds0, p0, q0, hargs, rfl, rfl, h0, r0⟩ := trodAll_cons hA
  obtain ⟨rfl, rfl, rfl⟩ := trodAll_nil r0
  obtain rfl : args = #[v0] := by cases args; simp_all
  obtain ⟨rfl, rfl⟩ := trodVars_none hV
  have k0 := h0
  have lt0 : ∀ x ∈ p0, x.block < W.heap.size := by obtain ⟨m, hm⟩ := k0; exact DataW.trod_lt m _ _ _ hm
  obtain ⟨y0, rfl, w0⟩ := Td.argV (.sl 5 (.int .u8)) (by kernel_rfl) (hval 0 28 v0 rfl rfl) h0
  clear hA0 hval0
  refine (walk y0 W w0).mono fun e W' ⟨he, bel⟩ => ?_
  subst he
  exact ⟨_, rfl, _, _, _, [], _, [], hW', trodAll_mk1 (shut_bool Tryz.underlying4 _), (trodAll_cons_mk (Below.trod laidOut (by kernel_rfl) (of_decide_eq_true (by kernel_rfl)) k0 bel lt0) trodAll_mk0), rfl, bel.frame _, fun h => by cases h⟩

theorem over : Rows.sniffLooksRow.holds Tryz.pinned (OpenSpec.ofChange Rows.sniffLooksSpec) :=
  OpenClaim.holds_of_wide 4 Tryz.f4 rfl rfl rfl rfl rfl rfl rfl ⟨rfl, rfl, rfl, rfl, rfl⟩ rfl rfl rfl rfl rfl (by kernel_rfl) Tryz.func4 joined
    (of_decide_eq_true (by kernel_rfl)) (by unfold Func.isWrapper; first | (rw [if_pos (by decide +kernel)]; kernel_rfl) | (rw [if_neg (by decide +kernel)]; exact ⟨rfl, rfl⟩))
    (fun os started H enc _ => lifted os started H enc)

theorem proved : Rows.SniffLooksSaid := over
#print axioms proved
end Go.Proofs.YtookicfejdbddaaGreat.sniffLooks
