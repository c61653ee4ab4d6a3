/- Walks of functions that the law reaches, and what they lean on; no conditions. -/
import Derived.Test.YtookicfejdbddaaGreatUtBase
import Derived.Test.YtookicfejdbddaaGreatUpSp
set_option linter.unusedVariables false
set_option linter.unusedSimpArgs false
set_option linter.unnecessarySimpa false
set_option maxRecDepth 100000
namespace Go.Proofs.YtookicfejdbddaaGreat
open Go.Sl Go.Cr Go.StoreP
noncomputable def oB (i : Nat) : Ob := ⟨i, 5, 1, false, iL .u8 [66, 77, 0, 0, 0, 0, 0, 0, 0, 0, 122, 0, 0, 0, 108, 0, 0, 0, 1, 0, 0, 0, 1, 0, 0, 0, 1, 0, 32, 0, 3, 0, 0, 0, 0, 0, 0, 0, 0, 0, 0, 0, 0, 0, 0, 0, 0, 0, 0, 0, 0, 0, 0, 0, 255, 0, 0, 0, 0, 255, 0, 0, 0, 0, 255, 0, 0, 0, 0, 255, 0, 0, 0, 0, 0, 0, 0, 0, 0, 0, 0, 0, 0, 0, 0, 0, 0, 0, 0, 0, 0, 0, 0, 0, 0, 0, 0, 0, 0, 0, 0, 0, 0, 0, 0, 0, 0, 0, 0, 0, 0, 0, 0, 0, 0, 0, 0, 0, 0, 0, 0, 0, 1, 0, 0, 255]⟩
noncomputable def oJ (i k : Nat) : Ob := ⟨i, 128, 1, true, [.sli k 0 126 126, .nils, .int .i64 (.ofNat 1), .int .i64 (.ofNat 0), .int .i64 (.ofNat 198), .int .i64 (.ofNat 0)]⟩
noncomputable def oD (x : SV) (st e : Nat) : Ob := ⟨0, 128, 1, true, [.nils, x, .int .i64 (.ofNat 1), .int .i64 (.ofNat st), .int .i64 (.ofNat 0), .int .i64 (.ofNat e)]⟩
def File (v : Value) : HProp := fun w0 h => ∃ ρ : Ren, (Fr ρ 1 ∧ den ρ (.sli 0 0 126 126) = some v) ∧ sats w0 [HO ρ (oB 0)] h
def JobW (p : Option Addr) : HProp := fun w0 h => ∃ ρ : Ren, (Fr ρ 2 ∧ den ρ (.ptr 0 0) = some (.pointer p)) ∧ sats w0 [HO ρ (oJ 0 1), HO ρ (oB 1)] h
noncomputable def dOb (t : Bool) : Ob := match t with | false => oD (.sli 1 0 82 82) 1 0 | true => oD .nils 2 4
def dSt (t : Bool) : Int := match t with | false => 1 | true => 2
def JobD (p : Option Addr) : HProp := fun w0 h => ∃ i : Ren × Bool, (Fr i.1 2 ∧ den i.1 (.ptr 0 0) = some (.pointer p)) ∧ sats w0 [HO i.1 (dOb i.2)] h
noncomputable def oFile : Or := ⟨36, 0, 18, [.int .i64 (.ofNat 1)], [], [oB 17], .sli 17 0 126 126⟩
noncomputable def oNewJ : Or := ⟨32, 1, 14, [.sli 0 0 126 126, .int .i64 (.ofNat 1)], [oB 0], [oJ 13 7, oB 7], .tup [.ptr 13 0, .int .i64 (.ofNat 0)]⟩
noncomputable def oStW : Or := ⟨81, 2, 2, [.ptr 0 0], [oJ 0 1], [oJ 0 1], .int .i64 (.ofNat 0)⟩
noncomputable def oStD (t : Bool) : Or := ⟨81, 2, 2, [.ptr 0 0], [dOb t], [dOb t], .int .i64 (dSt t)⟩
theorem oFile_ok : OrS Tryz.prog oFile := orS_of (callY_ok sp_ok (os := []) (by simp) 100) (by decide +kernel)
theorem oNewJ_ok : OrS Tryz.prog oNewJ := orS_of (callY_ok sp_ok (os := []) (by simp) 100) (by decide +kernel)
theorem oStW_ok : OrS Tryz.prog oStW := orS_of (callY_ok sp_ok (os := []) (by simp) 100) (by decide +kernel)
theorem oStD_ok : ∀ t, OrS Tryz.prog (oStD t)
  | false => orS_of (callY_ok sp_ok (os := []) (by simp) 100) (by decide +kernel)
  | true => orS_of (callY_ok sp_ok (os := []) (by simp) 100) (by decide +kernel)
def rn1 (σ : Ren) (k : Nat) : Ren := fun n => match n with | 0 => σ k | _ => none
def rn2 (σ : Ren) (k j : Nat) : Ren := fun n => match n with | 0 => σ k | 1 => σ j | _ => none
theorem ren1 (σ : Ren) (k : Nat) : Fr (rn1 σ k) 1 := fun m hm => by
  match m, hm with
  | m + 1, _ => rfl
theorem ren2 (σ : Ren) (k j : Nat) : Fr (rn2 σ k j) 2 := fun m hm => by
  match m, hm with
  | m + 2, _ => rfl
theorem c_file : Ctr Tryz.prog 36 [.int .i64 1] [] (Ret fun v G => G = [File v]) := fun w0 F w hi => by
  refine (oFile_ok (fun _ => none) [.int .i64 1] (fun _ _ => rfl) rfl w0 F w hi).mono ?_
  rintro e w' ⟨G, h1, v, rfl, σ, _, k2, k3, rfl⟩
  refine ⟨[File v], Inv.cls (B := [HO σ (oB 17)]) (fun h hh => ?_) h1, v, rfl, rfl⟩
  refine ⟨rn1 σ 17, ⟨ren1 σ 17, k3⟩, ?_⟩
  obtain ⟨g1, g2, d, l1, l2, p, _⟩ := hh
  exact ⟨g1, g2, d, l1, l2, HO_says (ρ := σ) (ρ' := rn1 σ 17) (a := oB 0) (b := oB 17) rfl rfl id rfl (fun vs h => h) p, trivial⟩
theorem c_job (v : Value) : Ctr Tryz.prog 32 [v, .int .i64 1] [File v] (Ret fun u G => ∃ a : Addr, u = .tuple #[.pointer (some a), .int .i64 0] ∧ G = [JobW (some a)]) := fun w0 F w hi => by
  obtain ⟨ρ, ⟨hf, hp⟩, hi⟩ := Inv.opn (ι := Ren) (K := fun ρ => Fr ρ 1 ∧ den ρ (.sli 0 0 126 126) = some v) (B := fun ρ => [HO ρ (oB 0)]) (fun h hh => hh) hi
  refine (oNewJ_ok ρ [v, .int .i64 1] hf (dens_mk hp rfl) w0 F w hi).mono ?_
  rintro e w' ⟨G, h1, u, rfl, σ, _, k2, k3, rfl⟩
  obtain ⟨vs, k4, rfl⟩ := den_tup k3
  obtain ⟨V1, us, rfl, k5, k6⟩ := dens_cons k4
  obtain ⟨V2, us, rfl, k7, k8⟩ := dens_cons k6
  cases k8
  cases k7
  obtain ⟨x, hx, rfl⟩ := den_ptr k5
  refine ⟨[JobW _], Inv.cls (B := [HO σ (oJ 13 7), HO σ (oB 7)]) (fun h hh => ?_) h1, _, rfl, _, rfl, rfl⟩
  refine ⟨rn2 σ 13 7, ⟨ren2 σ 13 7, k5⟩, ?_⟩
  obtain ⟨g1, g2, d, l1, l2, p, g3, g4, d2, l3, l4, p2, _⟩ := hh
  exact ⟨g1, g2, d, l1, l2, HO_says (ρ := σ) (ρ' := rn2 σ 13 7) (a := oJ 0 1) (b := oJ 13 7) rfl rfl id rfl (fun vs h => h) p, g3, g4, d2, l3, l4, HO_says (ρ := σ) (ρ' := rn2 σ 13 7) (a := oB 1) (b := oB 7) rfl rfl id rfl (fun vs h => h) p2, trivial⟩
theorem sub_second {A B B' : HProp} {F : List HProp} {w0 w : World} (h : ∀ g, B w0 g → B' w0 g) (hi : Inv w0 (A :: B :: F) w) : Inv w0 (A :: B' :: F) w :=
  (Inv.imp h (hi.perm (List.Perm.swap _ _ _))).perm (List.Perm.swap _ _ _)
theorem c_stW (p : Option Addr) : Ctr Tryz.prog 81 [.pointer p] [JobW p] (Ret fun v G => v = .int .i64 0 ∧ G = [JobW p]) := fun w0 F w hi => by
  obtain ⟨ρ, ⟨hf, hp⟩, hi⟩ := Inv.opn (ι := Ren) (K := fun ρ => Fr ρ 2 ∧ den ρ (.ptr 0 0) = some (.pointer p)) (B := fun ρ => [HO ρ (oJ 0 1), HO ρ (oB 1)]) (fun h hh => hh) hi
  refine (oStW_ok ρ [.pointer p] hf (dens_mk hp rfl) w0 (HO ρ (oB 1) :: F) w hi).mono ?_
  rintro e w' ⟨G, h1, u, rfl, σ, k1, k2, k3, rfl⟩
  cases k3
  refine ⟨[JobW p], Inv.cls (B := [HO σ (oJ 0 1), HO σ (oB 1)]) (fun h hh => ⟨σ, ⟨k2, den_ext k1 hp⟩, hh⟩) (sub_second (fun g => HO.ext k1) h1), _, rfl, rfl, rfl⟩
theorem c_stD (p : Option Addr) : Ctr Tryz.prog 81 [.pointer p] [JobD p] (Ret fun v G => ∃ n : Int, n ≠ 0 ∧ v = .int .i64 n ∧ G = [JobD p]) := fun w0 F w hi => by
  obtain ⟨⟨ρ, t⟩, ⟨hf, hp⟩, hi⟩ := Inv.opn (ι := Ren × Bool) (K := fun i => Fr i.1 2 ∧ den i.1 (.ptr 0 0) = some (.pointer p)) (B := fun i => [HO i.1 (dOb i.2)]) (fun h hh => hh) hi
  refine (oStD_ok t ρ [.pointer p] hf (dens_mk hp rfl) w0 F w hi).mono ?_
  rintro e w' ⟨G, h1, u, rfl, σ, k1, k2, k3, rfl⟩
  cases k3
  exact ⟨[JobD p], Inv.cls (B := [HO σ (dOb t)]) (fun h hh => ⟨(σ, t), ⟨k2, den_ext k1 hp⟩, hh⟩) h1, _, rfl, dSt t, by cases t <;> decide, rfl, rfl⟩
def JB (x : It) : HProp := match x.dn with | true => JobD x.j | false => JobW x.j
def JL (l : List It) : HProp := Star (l.map JB)
theorem er_perm {α : Type} : ∀ {l : List α} {k : Nat} (hk : k < l.length), l.Perm (l[k] :: l.eraseIdx k)
  | x :: l, 0, hk => List.Perm.refl _
  | x :: l, k + 1, hk => ((er_perm (l := l) (k := k) (by simpa using hk)).cons x).trans (List.Perm.swap _ _ _)
theorem jl_perm {l : List It} {k : Nat} (hk : k < l.length) : (l.map JB).Perm (JB l[k] :: (l.eraseIdx k).map JB) := (er_perm hk).map JB
theorem jl_eq {l m : List It} {F : List HProp} (h : l.map JB = m.map JB) : Sub (JL l :: F) (JL m :: F) := fun w0 w hi => by
  unfold JL at hi ⊢
  rw [← h]
  exact hi
theorem Ctr.inJL {f : FuncId} {args : List Value} {K : Value → Prop} {l : List It} {k : Nat} (hk : k < l.length) (h : Ctr Tryz.prog f args [JB l[k]] (Ret fun v G => K v ∧ G = [JB l[k]])) : Ctr Tryz.prog f args [JL l] (Ret fun v G => K v ∧ G = [JL l]) := fun w0 F w hi => by
  refine (h w0 ((l.eraseIdx k).map JB ++ F) w (hi.unstar.perm ((jl_perm hk).append_right F))).mono ?_
  rintro e w' ⟨G, h1, v, rfl, hv, rfl⟩
  exact ⟨[JL l], Inv.star (h1.perm ((jl_perm hk).symm.append_right F)), v, rfl, hv, rfl⟩
end Go.Proofs.YtookicfejdbddaaGreat
