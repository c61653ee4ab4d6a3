/- Walks of functions that the law reaches, and what they lean on; no conditions. -/
import Derived.Test.YtookicfejdbddaaGreatUwA
import Derived.Test.YtookicfejdbddaaGreatUtPan
import Derived.Test.YtookicfejdbddaaGreatUtJ
import Derived.Test.YtookicfejdbddaaGreatUoB
import Derived.Test.YtookicfejdbddaaGreatUoC
set_option linter.unusedVariables false
set_option linter.unusedSimpArgs false
set_option linter.unnecessarySimpa false
set_option maxRecDepth 100000
namespace Go.Proofs.YtookicfejdbddaaGreat
open Go.Sl Go.Cr Go.StoreP
def idxM (m z : Nat) : Bool := match m with | 255 => Nat.beq z 0 | 65280 => Nat.beq z 15 | 16711680 => Nat.beq z 22 | 4278190080 => Nat.beq z 6 | _ => false
noncomputable def spR1 (s : Cr.St) (m : Nat) (ob : Ob) : R1 := wb (Nat.beq ob.T 8589934593 && (ob.ex && idxM m ob.sz)) (.ok (.tup [.int .i64 (.ofNat 0), .int .i64 (.ofNat 0), .bool false]) s)
noncomputable def spR0 (vs : List SV) (s : Cr.St) : R1 := match vs with | [.int .u32 (.ofNat m)] => wo (s.h.get 1000001) (spR1 s m) | _ => .no
noncomputable def spRun : Cl := fun g vs s => Bool.rec .no (spR0 vs s) (Nat.beq g 505)
theorem c_run {m z : Nat} {vs : List Value} (hz : idxM m z = true) (hb : Bad z vs) : Ctr Tryz.prog 505 [.int .u32 m] [Rd (some ⟨1, 0, none⟩) vs.length 1 vs] (Ret fun v G => v = .tuple #[.int .i64 0, .int .i64 0, .bool false] ∧ G = [Rd (some ⟨1, 0, none⟩) vs.length 1 vs]) := by
  unfold idxM at hz
  split at hz
  · obtain rfl := Nat.eq_of_beq_eq_true hz; exact c_run0 vs hb
  · obtain rfl := Nat.eq_of_beq_eq_true hz; exact c_run15 vs hb
  · obtain rfl := Nat.eq_of_beq_eq_true hz; exact c_run22 vs hb
  · obtain rfl := Nat.eq_of_beq_eq_true hz; exact c_run6 vs hb
  · cases hz
theorem spRun_ok : SoundC Tryz.prog spRun := by
  intro g vs s s' v h ρ Vs hf hv
  unfold spRun at h
  cases hg : Nat.beq g 505 with
  | false => rw [hg] at h; cases h
  | true =>
    rw [hg] at h
    obtain rfl := Nat.eq_of_beq_eq_true hg
    have h : spR0 vs s = R1.ok v s' := h
    unfold spR0 at h
    split at h <;> try (cases h; done)
    rename_i m
    obtain ⟨ob, hob, h⟩ := wo_ok h
    obtain ⟨h1, h⟩ := wb_ok h
    cases h
    simp only [Bool.and_eq_true] at h1
    obtain ⟨h1, h2, h3⟩ := h1
    have h1 := Nat.eq_of_beq_eq_true h1
    obtain ⟨V1, us, rfl, h4, h5⟩ := dens_cons hv
    cases h5
    cases h4
    have hg1 : HO ρ ob = HOg ρ ob := HO_g (by rw [h1]; decide) (by rw [h1]; decide)
    intro w0 F w hi
    have hi1 : Inv w0 (HO ρ ob :: (denH ρ (s.h.set 1000001 none) ++ F)) w := hi.perm ((H_get (ρ := ρ) hob).append_right F)
    rw [hg1] at hi1
    obtain ⟨us, ⟨k1, k2⟩, hi2⟩ := Inv.opn (ι := List Value) (K := fun us => dens ρ ob.cs = some us ∧ Bad ob.sz us) (B := fun us => [Rd (some ⟨1, 0, none⟩) us.length 1 us]) (fun h hh => by
      obtain ⟨us, j1, j2, j3⟩ := hh
      rw [h1] at j2
      exact ⟨us, ⟨j1, j3 h2⟩, h, fun _ => none, fun _ => .inr rfl, Hp.le_refl _, fun _ _ e => by simp at e, j2, trivial⟩) hi1
    refine (c_run h3 k2 w0 _ w hi2).mono ?_
    rintro e w' ⟨G, g1, u, rfl, rfl, rfl⟩
    refine ⟨denH ρ s.h, ?_, _, rfl, ρ, Ext.refl _, hf, rfl, rfl⟩
    have hi3 : Inv w0 (HO ρ ob :: (denH ρ (s.h.set 1000001 none) ++ F)) w' := by
      rw [hg1]
      refine Inv.imp (fun h hh => ?_) g1
      exact ⟨us, k1, by rw [h1]; exact hh, fun _ => k2⟩
    exact hi3.perm ((H_get (ρ := ρ) hob).symm.append_right F)
theorem orR_ok {a b : Cl} (ha : SoundC Tryz.prog a) (hb : SoundC Tryz.prog b) : SoundC Tryz.prog (fun g vs s => orR (a g vs s) (b g vs s)) := by
  intro g vs s s' v h ρ Vs hf hv
  have h : orR (a g vs s) (b g vs s) = .ok v s' := h
  cases hr : a g vs s with
  | ok u s1 => rw [hr] at h; cases h; exact ha hr hf hv
  | no => rw [hr] at h; exact hb h hf hv
noncomputable def spW : Cl := fun g vs s => orR (spRun g vs s) (spY (callY Tryz.prog spRun [] 100) 50 g vs s)
theorem spW_ok : SoundC Tryz.prog spW := orR_ok spRun_ok (spY_ok (callY_ok spRun_ok (os := []) (by simp) 100) 50)
def tcs (f : Nat → Int) : List SV := [.int .u8 (f 0), .int .u8 (f 1), .int .u8 (f 2), .int .u8 (f 3), .int .u8 (f 4), .int .u8 (f 5), .int .u8 (f 6), .int .u8 (f 7), .int .u8 (f 8), .int .u8 (f 9), .int .u8 (f 10), .int .u8 (f 11), .int .u8 (f 12), .int .u8 (f 13), .int .u8 (f 14), .int .u8 (f 15), .int .u8 (f 16), .int .u8 (f 17), .int .u8 (f 18), .int .u8 (f 19), .int .u8 (f 20), .int .u8 (f 21), .int .u8 (f 22), .int .u8 (f 23), .int .u8 (f 24), .int .u8 (f 25), .int .u8 (f 26), .int .u8 (f 27), .int .u8 (f 28), .int .u8 (f 29), .int .u8 (f 30), .int .u8 (f 31)]
noncomputable def tob (f : Nat → Int) : Ob := ⟨1000001, 8589934593, 1, false, tcs f⟩
def tcR (f : Nat → Int) : List SV := [.int .u8 (.ofNat 0), .int .u8 (f 1), .int .u8 (f 2), .int .u8 (f 3), .int .u8 (f 4), .int .u8 (f 5), .int .u8 (.ofNat 24), .int .u8 (f 7), .int .u8 (f 8), .int .u8 (f 9), .int .u8 (f 10), .int .u8 (f 11), .int .u8 (f 12), .int .u8 (f 13), .int .u8 (f 14), .int .u8 (.ofNat 8), .int .u8 (f 16), .int .u8 (f 17), .int .u8 (f 18), .int .u8 (f 19), .int .u8 (f 20), .int .u8 (f 21), .int .u8 (.ofNat 16), .int .u8 (f 23), .int .u8 (f 24), .int .u8 (f 25), .int .u8 (f 26), .int .u8 (f 27), .int .u8 (f 28), .int .u8 (f 29), .int .u8 (f 30), .int .u8 (f 31)]
noncomputable def oStepR (f : Nat → Int) : Or := ⟨41, 2, 2224, [.ptr 0 0, .int .i64 (.ofNat 1073741824)], [oJ 0 1, oB 1, ⟨1000001, 8589934593, 1, false, tcR f⟩], [oD (.sli 2223 0 82 82) 1 0], .int .i64 (.ofNat 198)⟩
theorem oStepR_ok (f : Nat → Int) : OrS Tryz.prog (oStepR f) := orS_of (callY_ok sp_ok (os := [oFix, oDyn]) (by simp only [List.forall_mem_cons]; exact ⟨oFix_ok, oDyn_ok, by simp⟩) 100) (by kernel_rfl)
def tc0 (f : Nat → Int) : List SV := [.int .u8 (f 0), .int .u8 (f 1), .int .u8 (f 2), .int .u8 (f 3), .int .u8 (f 4), .int .u8 (f 5), .int .u8 (f 6), .int .u8 (f 7), .int .u8 (f 8), .int .u8 (f 9), .int .u8 (f 10), .int .u8 (f 11), .int .u8 (f 12), .int .u8 (f 13), .int .u8 (f 14), .int .u8 (f 15), .int .u8 (f 16), .int .u8 (f 17), .int .u8 (f 18), .int .u8 (f 19), .int .u8 (f 20), .int .u8 (f 21), .int .u8 (f 22), .int .u8 (f 23), .int .u8 (f 24), .int .u8 (f 25), .int .u8 (f 26), .int .u8 (f 27), .int .u8 (f 28), .int .u8 (f 29), .int .u8 (f 30), .int .u8 (f 31)]
noncomputable def oStep0 (f : Nat → Int) : Or := ⟨41, 2, 16, [.ptr 0 0, .int .i64 (.ofNat 1073741824)], [oJ 0 1, oB 1, ⟨1000001, 8589934593, 0, true, tc0 f⟩], [oD .nils 2 4], .int .i64 (.ofNat 198)⟩
theorem oStep0_ok (f : Nat → Int) : OrS Tryz.prog (oStep0 f) := orS_of (callY_ok spW_ok (os := []) (by simp) 100) (by kernel_rfl)
def tc1 (f : Nat → Int) : List SV := [.int .u8 (.ofNat 0), .int .u8 (f 1), .int .u8 (f 2), .int .u8 (f 3), .int .u8 (f 4), .int .u8 (f 5), .int .u8 (f 6), .int .u8 (f 7), .int .u8 (f 8), .int .u8 (f 9), .int .u8 (f 10), .int .u8 (f 11), .int .u8 (f 12), .int .u8 (f 13), .int .u8 (f 14), .int .u8 (f 15), .int .u8 (f 16), .int .u8 (f 17), .int .u8 (f 18), .int .u8 (f 19), .int .u8 (f 20), .int .u8 (f 21), .int .u8 (f 22), .int .u8 (f 23), .int .u8 (f 24), .int .u8 (f 25), .int .u8 (f 26), .int .u8 (f 27), .int .u8 (f 28), .int .u8 (f 29), .int .u8 (f 30), .int .u8 (f 31)]
noncomputable def oStep1 (f : Nat → Int) : Or := ⟨41, 2, 16, [.ptr 0 0, .int .i64 (.ofNat 1073741824)], [oJ 0 1, oB 1, ⟨1000001, 8589934593, 15, true, tc1 f⟩], [oD .nils 2 4], .int .i64 (.ofNat 198)⟩
theorem oStep1_ok (f : Nat → Int) : OrS Tryz.prog (oStep1 f) := orS_of (callY_ok spW_ok (os := []) (by simp) 100) (by kernel_rfl)
def tc2 (f : Nat → Int) : List SV := [.int .u8 (.ofNat 0), .int .u8 (f 1), .int .u8 (f 2), .int .u8 (f 3), .int .u8 (f 4), .int .u8 (f 5), .int .u8 (f 6), .int .u8 (f 7), .int .u8 (f 8), .int .u8 (f 9), .int .u8 (f 10), .int .u8 (f 11), .int .u8 (f 12), .int .u8 (f 13), .int .u8 (f 14), .int .u8 (.ofNat 8), .int .u8 (f 16), .int .u8 (f 17), .int .u8 (f 18), .int .u8 (f 19), .int .u8 (f 20), .int .u8 (f 21), .int .u8 (f 22), .int .u8 (f 23), .int .u8 (f 24), .int .u8 (f 25), .int .u8 (f 26), .int .u8 (f 27), .int .u8 (f 28), .int .u8 (f 29), .int .u8 (f 30), .int .u8 (f 31)]
noncomputable def oStep2 (f : Nat → Int) : Or := ⟨41, 2, 16, [.ptr 0 0, .int .i64 (.ofNat 1073741824)], [oJ 0 1, oB 1, ⟨1000001, 8589934593, 22, true, tc2 f⟩], [oD .nils 2 4], .int .i64 (.ofNat 198)⟩
theorem oStep2_ok (f : Nat → Int) : OrS Tryz.prog (oStep2 f) := orS_of (callY_ok spW_ok (os := []) (by simp) 100) (by kernel_rfl)
def tc3 (f : Nat → Int) : List SV := [.int .u8 (.ofNat 0), .int .u8 (f 1), .int .u8 (f 2), .int .u8 (f 3), .int .u8 (f 4), .int .u8 (f 5), .int .u8 (f 6), .int .u8 (f 7), .int .u8 (f 8), .int .u8 (f 9), .int .u8 (f 10), .int .u8 (f 11), .int .u8 (f 12), .int .u8 (f 13), .int .u8 (f 14), .int .u8 (.ofNat 8), .int .u8 (f 16), .int .u8 (f 17), .int .u8 (f 18), .int .u8 (f 19), .int .u8 (f 20), .int .u8 (f 21), .int .u8 (.ofNat 16), .int .u8 (f 23), .int .u8 (f 24), .int .u8 (f 25), .int .u8 (f 26), .int .u8 (f 27), .int .u8 (f 28), .int .u8 (f 29), .int .u8 (f 30), .int .u8 (f 31)]
noncomputable def oStep3 (f : Nat → Int) : Or := ⟨41, 2, 16, [.ptr 0 0, .int .i64 (.ofNat 1073741824)], [oJ 0 1, oB 1, ⟨1000001, 8589934593, 6, true, tc3 f⟩], [oD .nils 2 4], .int .i64 (.ofNat 198)⟩
theorem oStep3_ok (f : Nat → Int) : OrS Tryz.prog (oStep3 f) := orS_of (callY_ok spW_ok (os := []) (by simp) 100) (by kernel_rfl)
end Go.Proofs.YtookicfejdbddaaGreat
