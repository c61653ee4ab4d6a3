/- Walks of functions that the law reaches, and what they lean on; no conditions. -/
import Derived.Test.YtookicfejdbddaaGreatUtL
import GoSem.Claims
set_option linter.unusedVariables false
set_option linter.unusedSimpArgs false
set_option linter.unnecessarySimpa false
set_option maxRecDepth 100000
namespace Go.Proofs.YtookicfejdbddaaGreat
open Go.Sl Go.StoreP
theorem byteIn {x : Int} (h : IntKind.u8.min ≤ x ∧ x ≤ IntKind.u8.max) : 0 ≤ x ∧ x < 256 := by
  rw [show IntKind.u8.min = 0 from rfl, show IntKind.u8.max = 255 from rfl] at h
  omega
theorem tz_n : Tryz.prog.globals.size = 2 := by kernel_rfl
theorem tz_0 : ((begin Tryz.prog (fun _ _ => 0) default).world.heap[1]?).bind Obj.row? = some (Array.replicate 32 (.int .u8 0), 511) := by kernel_rfl
theorem tz_b : Tryz.prog.buildable 511 = true := by kernel_rfl
theorem tz_c : Tryz.prog.cellTypes Tryz.prog.depth 511 = some (List.replicate 32 5).toArray.toList := by kernel_rfl
theorem tz_u : Tryz.prog.underlying 5 = some (.int .u8) := by kernel_rfl
theorem tvs_range (f : Nat → Int) : tvs f = (List.range 32).map (fun i => Value.int .u8 (f i)) := rfl
theorem tab {W : World} (h : W.ShapedOpen Tryz.prog) : ∃ f : Nat → Int, (∀ i, 0 ≤ f i ∧ f i < 256) ∧ TB f W (fun _ => none) := by
  obtain ⟨cs, hh, hs, hr⟩ := h.1 1 _ _ (by rw [tz_n]; decide) tz_0
  obtain ⟨ts, hts, _, hall⟩ := hr tz_b
  rw [tz_c] at hts
  cases hts
  rw [Array.size_replicate] at hs
  have hc : ∀ i : Nat, ∃ n : Int, (0 ≤ n ∧ n < 256) ∧ (i < 32 → cs[i]? = some (.int .u8 n)) := fun i => by
    by_cases hi : i < 32
    · have h1 : cs[i]? = some (cs[i]'(by omega)) := by simp [hs, hi]
      obtain ⟨u, hu, hok⟩ := hall i _ h1
      have hu : u = 5 := by
        have : (List.replicate 32 5)[i % 32]? = some u := by simpa using hu
        rw [List.getElem?_replicate] at this
        split at this
        · cases this; rfl
        · cases this
      subst hu
      unfold Cell.ok at hok
      rw [tz_u] at hok
      generalize cs[i]'(by omega) = v at hok h1
      cases v <;> simp at hok
      rename_i k n
      obtain ⟨rfl, h2⟩ := hok
      refine ⟨n, ?_, fun _ => h1⟩
      have h3 : IntKind.u8.has n := h2
      unfold IntKind.has IntKind.min IntKind.max at h3
      simp [IntKind.signed, IntKind.bits] at h3
      omega
    · exact ⟨0, by decide, fun h => absurd h hi⟩
  refine ⟨fun i => (hc i).choose, fun i => (hc i).choose_spec.1, rfl, .inr ⟨1, 0, rfl, fun i v hv => ?_⟩⟩
  have hlt : i < 32 := (List.getElem?_eq_some_iff.1 hv).1
  have hg := (hc i).choose_spec.2 hlt
  have hw : 1 < W.heap.size := (Array.getElem?_eq_some_iff.1 hh).1
  have he : (tvs fun i => (hc i).choose)[i]? = some (.int .u8 (hc i).choose) := by
    rw [tvs_range, List.getElem?_map, List.getElem?_range hlt]
    rfl
  rw [he] at hv
  cases hv
  simp only [cellH, hw, if_true, World.cell?, hh, Nat.zero_add]
  simpa using hg
end Go.Proofs.YtookicfejdbddaaGreat
