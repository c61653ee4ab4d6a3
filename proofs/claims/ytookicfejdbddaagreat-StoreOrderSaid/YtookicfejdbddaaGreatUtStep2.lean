/- Walks of functions that the law reaches, and what they lean on; no conditions. -/
import Derived.Test.YtookicfejdbddaaGreatUtStep
set_option linter.unusedVariables false
set_option linter.unusedSimpArgs false
set_option linter.unnecessarySimpa false
set_option maxRecDepth 100000
namespace Go.Proofs.YtookicfejdbddaaGreat
open Go.Sl Go.Cr Go.StoreP
def tvs (f : Nat → Int) : List Value := [.int .u8 (f 0), .int .u8 (f 1), .int .u8 (f 2), .int .u8 (f 3), .int .u8 (f 4), .int .u8 (f 5), .int .u8 (f 6), .int .u8 (f 7), .int .u8 (f 8), .int .u8 (f 9), .int .u8 (f 10), .int .u8 (f 11), .int .u8 (f 12), .int .u8 (f 13), .int .u8 (f 14), .int .u8 (f 15), .int .u8 (f 16), .int .u8 (f 17), .int .u8 (f 18), .int .u8 (f 19), .int .u8 (f 20), .int .u8 (f 21), .int .u8 (f 22), .int .u8 (f 23), .int .u8 (f 24), .int .u8 (f 25), .int .u8 (f 26), .int .u8 (f 27), .int .u8 (f 28), .int .u8 (f 29), .int .u8 (f 30), .int .u8 (f 31)]
def TB (f : Nat → Int) : HProp := fun w0 _ => Rd (some ⟨1, 0, none⟩) 32 1 (tvs f) w0 (fun _ => none)
theorem tb_of {f : Nat → Int} {F : List HProp} {w0 w : World} (hi : Inv w0 (TB f :: F) w) : Rd (some ⟨1, 0, none⟩) 32 1 (tvs f) w0 (fun _ => none) := by
  obtain ⟨_, _, _, _, _, _, _, _, p, _⟩ := hi
  exact p
theorem ho_tb {ρ : Ren} {z : Nat} {ex : Bool} {cs : List SV} {f : Nat → Int} {w0 : World} (ht : Rd (some ⟨1, 0, none⟩) 32 1 (tvs f) w0 (fun _ => none)) (hd : dens ρ cs = some (tvs f)) (hb : ex = true → Bad z (tvs f)) : HO ρ ⟨1000001, 8589934593, z, ex, cs⟩ w0 (fun _ => none) := by
  rw [HO_g (ρ := ρ) (o := ⟨1000001, 8589934593, z, ex, cs⟩) (show Nat.blt 8589934593 4294967296 = false by decide) (show Nat.blt 8589934593 8589934592 = false by decide)]
  refine ⟨tvs f, hd, ?_, hb⟩
  have e : (8589934593 : Nat) - 8589934592 = 1 := by decide
  show Rd (some ⟨8589934593 - 8589934592, 0, none⟩) 32 1 (tvs f) w0 (fun _ => none)
  rw [e]
  exact ht
theorem step_of {w0 w : World} {p : Option Addr} {f : Nat → Int} {F : List HProp} (T X : Ob) (n : Nat) (ho : OrS Tryz.prog ⟨41, 2, n, [.ptr 0 0, .int .i64 (.ofNat 1073741824)], [oJ 0 1, oB 1, T], [X], .int .i64 (.ofNat 198)⟩) (hT : ∀ ρ, HO ρ T w0 (fun _ => none))
    (hX : ∀ (σ : Ren) h, HO σ X w0 h → ∃ i : Ren × Bool, (i.1 0 = σ 0 ∧ Fr i.1 2) ∧ HO i.1 (dOb i.2) w0 h) (hi : Inv w0 ([JobW p, TB f] ++ F) w) :
    Calls Tryz.prog 41 #[.pointer p, .int .i64 1073741824] w fun e w' => ∃ G, Inv w0 (G ++ F) w' ∧ Ret (fun v G => v = .int .i64 198 ∧ G = [JobD p, TB f]) e G := by
  obtain ⟨ρ, ⟨hf, hp⟩, hi⟩ := Inv.opn (ι := Ren) (K := fun ρ => Fr ρ 2 ∧ Cr.den ρ (.ptr 0 0) = some (.pointer p)) (B := fun ρ => [HO ρ (oJ 0 1), HO ρ (oB 1)]) (fun h hh => hh) hi
  have hi2 : Inv w0 ([HO ρ (oJ 0 1), HO ρ (oB 1), HO ρ T] ++ (TB f :: F)) w := by
    refine (hi.add0 (hT ρ)).perm ?_
    exact (List.Perm.swap _ _ _).trans ((List.Perm.swap _ _ _).cons _)
  refine (ho ρ [.pointer p, .int .i64 1073741824] hf (dens_mk hp rfl) w0 (TB f :: F) w hi2).mono ?_
  rintro e w' ⟨G, h1, u, rfl, σ, k1, k2, k3, rfl⟩
  cases k3
  refine ⟨[JobD p, TB f], Inv.cls (B := [HO σ X]) (fun h hh => ?_) h1, _, rfl, rfl, rfl⟩
  obtain ⟨g1, g2, d, l1, l2, q, _⟩ := hh
  obtain ⟨i, ⟨i1, i2⟩, i3⟩ := hX σ g1 q
  refine ⟨i, ⟨i2, ?_⟩, g1, g2, d, l1, l2, i3, trivial⟩
  have := den_ext k1 hp
  simp only [Cr.den] at this ⊢
  rw [i1]
  exact this
theorem x_R (w0 : World) (σ : Ren) (h : Hp) (q : HO σ (oD (.sli 2223 0 82 82) 1 0) w0 h) : ∃ i : Ren × Bool, (i.1 0 = σ 0 ∧ Fr i.1 2) ∧ HO i.1 (dOb i.2) w0 h :=
  ⟨(rn2 σ 0 2223, false), ⟨rfl, ren2 σ 0 2223⟩, HO_says (ρ := σ) (ρ' := rn2 σ 0 2223) (a := oD (.sli 1 0 82 82) 1 0) (b := oD (.sli 2223 0 82 82) 1 0) rfl rfl id rfl (fun vs h => h) q⟩
theorem x_W (w0 : World) (σ : Ren) (h : Hp) (q : HO σ (oD .nils 2 4) w0 h) : ∃ i : Ren × Bool, (i.1 0 = σ 0 ∧ Fr i.1 2) ∧ HO i.1 (dOb i.2) w0 h :=
  ⟨(rn1 σ 0, true), ⟨rfl, (ren1 σ 0).le (by decide)⟩, HO_says (ρ := σ) (ρ' := rn1 σ 0) (a := oD .nils 2 4) (b := oD .nils 2 4) rfl rfl id rfl (fun vs h => h) q⟩
theorem c_step (p : Option Addr) (f : Nat → Int) (hf : ∀ i, 0 ≤ f i ∧ f i < 256) : Ctr Tryz.prog 41 [.pointer p, .int .i64 1073741824] [JobW p, TB f] (Ret fun v G => v = .int .i64 198 ∧ G = [JobD p, TB f]) := fun w0 F w hi => by
  have ht := tb_of (hi.perm (List.Perm.swap _ _ _))
  by_cases h0 : f 0 = 0
  rotate_left
  · refine step_of ⟨1000001, 8589934593, 0, true, tc0 f⟩ _ 16 (oStep0_ok f) (fun ρ => ?_) (x_W w0) hi
    refine ho_tb ht ?_ (fun _ => ⟨f 0, rfl, (hf 0).1, (hf 0).2, h0⟩)
    unfold tvs
    rfl
  by_cases h15 : f 15 = 8
  rotate_left
  · refine step_of ⟨1000001, 8589934593, 15, true, tc1 f⟩ _ 16 (oStep1_ok f) (fun ρ => ?_) (x_W w0) hi
    refine ho_tb ht ?_ (fun _ => ⟨f 15, rfl, (hf 15).1, (hf 15).2, h15⟩)
    unfold tvs
    rw [h0]; rfl
  by_cases h22 : f 22 = 16
  rotate_left
  · refine step_of ⟨1000001, 8589934593, 22, true, tc2 f⟩ _ 16 (oStep2_ok f) (fun ρ => ?_) (x_W w0) hi
    refine ho_tb ht ?_ (fun _ => ⟨f 22, rfl, (hf 22).1, (hf 22).2, h22⟩)
    unfold tvs
    rw [h0]; rw [h15]; rfl
  by_cases h6 : f 6 = 24
  rotate_left
  · refine step_of ⟨1000001, 8589934593, 6, true, tc3 f⟩ _ 16 (oStep3_ok f) (fun ρ => ?_) (x_W w0) hi
    refine ho_tb ht ?_ (fun _ => ⟨f 6, rfl, (hf 6).1, (hf 6).2, h6⟩)
    unfold tvs
    rw [h0]; rw [h15]; rw [h22]; rfl
  refine step_of ⟨1000001, 8589934593, 1, false, tcR f⟩ _ 2224 (oStepR_ok f) (fun ρ => ?_) (x_R w0) hi
  refine ho_tb ht ?_ (fun e => by cases e)
  unfold tvs
  rw [h0, h15, h22, h6]; rfl
end Go.Proofs.YtookicfejdbddaaGreat
