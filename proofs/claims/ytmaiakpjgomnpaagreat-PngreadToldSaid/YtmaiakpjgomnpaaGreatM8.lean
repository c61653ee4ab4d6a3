/- Walks of functions that the law reaches, and what they lean on; no conditions. -/
import Derived.Test.YtmaiakpjgomnpaaGreatM1
import Derived.KernelRfl
import Derived.Test.YtmaiakpjgomnpaaGreatM7
import Derived.Test.YtmaiakpjgomnpaaGreatM4
import Derived.Test.YtmaiakpjgomnpaaGreatM3
import Derived.Test.YtmaiakpjgomnpaaGreatM2
set_option linter.unusedVariables false
set_option linter.unusedSimpArgs false
set_option maxRecDepth 100000
namespace Go.Proofs.YtmaiakpjgomnpaaGreat
open Go.Sl 
theorem bH : dU Tryz.prog ⟨[22, 24, 47], [(35, 2, 2), (35, 3, 3), (38, 2, 2), (38, 3, 3), (90, 0, 0), (90, 1, 5), (90, 2, 6), (90, 4, 8), (151, 1, 1)]⟩ = true := by kernel_rfl
attribute [local irreducible] aj.au aa.bR aa.up aa.cZ aa.gZ aa.Dh aa.deep aa.parts HW aa.bD aa.jh aa.fE aa.qD aa.ky aa.gw
set_option maxHeartbeats 1000000 in
theorem yX (p1 : Option Addr) (n1 c1 : Nat) (L1 : List Int) (hn1 : L1.length = n1) (R1 : ad) (hR1 : ∀ w0 h, R1 w0 h → aS (aP 3 .i64) p1 n1 L1 w0 h) (p2 : Option Addr) (n2 c2 : Nat) (L2 : List Int) (hn2 : L2.length = n2) (R2 : ad) (hR2 : ∀ w0 h, R2 w0 h → aS (aP 3 .i64) p2 n2 L2 w0 h) (hs1 : n1 ≤ 100000000) (t : Bool) (ht : t = decide (L1 = L2)) : aG Tryz.prog 173 [.slice p1 n1 c1, .slice p2 n2 c2] [R1, R2] (aQ fun v G => v = .bool t ∧ G = [R1, R2]) := by
  refine av [(0, _), (1, _)] Tryz.func173 rfl Tryz.ntmps173 rfl rfl ?_
  intro w0 F
  refine rT bH 5 rfl ?_
  rcases (Classical.em (n1 = n2)) with hne0 | hne0
  ·
    refine rC bH 7 rfl ?_
    refine oV (aA (cx rfl rfl) (by omega)) ?_
    refine rO bH 14 rfl ?_
    refine eb (fun (i : Nat) => [(0, .slice p1 n1 c1), (1, .slice p2 n2 c2), (12, .int .i64 (n1 : Int)), (13, .int .i64 (i : Int))]) (fun (i : Nat) => R1 :: R2 :: F) (fun (i : Nat) => i ≤ n1 ∧ ∀ j, j < i → L1.getD j 0 = L2.getD j 0) (fun (i : Nat) => n1 - i) (i1 (0) ?_ (fo ln) (sub (bF .nil) aw)) ?_
    ·
      exact ⟨Nat.zero_le _, fun j hj => by omega⟩
    intro i
    rintro ⟨hi, hall⟩
    refine rL bH 6 rfl ?_
    refine aN rfl (fun h14 => ?_) (fun h14 => ?_)
    ·
      refine rC bH 10 rfl ?_
      rcases (Classical.em (((aP 3 .i64).g L1 (i : Int)) ≠ ((aP 3 .i64).g L2 (i : Int)))) with hne | hne
      ·
        refine rC bH 1 rfl ?_
        refine oF V.mixed (by kernel_rfl) ?_
        refine rR bH 2 rfl ?_
        refine oR (xI V.cT (by exact bE hR1 an)) ?_
        refine oR (xL V.s3 (by exact bE hR1 an)) ?_
        refine rR bH 2 rfl ?_
        refine oR (xI V.cT (by exact bE hR2 bW)) ?_
        refine oR (xL V.s3 (by exact bE hR2 bW)) ?_
        refine oR (aW (cx rfl rfl) hne) ?_
        refine Rg.cW ?_
        refine rN bH 13 rfl ?_
        obtain rfl : t = false := ht.trans (decide_eq_false (aa.GD hne))
        exact ak (aC rfl) ⟨rfl, rfl⟩ (sub (bF .nil) aw)
      ·
        refine rC bH 1 rfl ?_
        refine oF V.mixed (by kernel_rfl) ?_
        refine rR bH 2 rfl ?_
        refine oR (xI V.cT (by exact bE hR1 an)) ?_
        refine oR (xL V.s3 (by exact bE hR1 an)) ?_
        refine rR bH 2 rfl ?_
        refine oR (xI V.cT (by exact bE hR2 bW)) ?_
        refine oR (xL V.s3 (by exact bE hR2 bW)) ?_
        refine oR (aA (cx rfl rfl) hne) ?_
        refine Rg.cW ?_
        refine Nu bH 9 rfl (by omega) ?_
        refine j1 (i + 1) ?_ (fo ln) (sub (bF .nil) aw)
        exact ⟨⟨by omega, fun j hj => (Nat.lt_succ_iff_lt_or_eq.1 hj).elim (hall j) (fun e => e ▸ Classical.not_not.1 hne)⟩, by omega⟩
    ·
      refine rC bH 11 rfl ?_
      obtain rfl : t = true := ht.trans (decide_eq_true (aa.BL (by omega) (fun j hj => hall j (by omega))))
      exact ak (aC rfl) ⟨rfl, rfl⟩ (sub (bF .nil) aw)
  ·
    refine rC bH 7 rfl ?_
    refine oV (aW (cx rfl rfl) (by omega)) ?_
    refine rO bH 10 rfl ?_
    obtain rfl : t = false := ht.trans (decide_eq_false (fun e => hne0 (by rw [← hn1, ← hn2, e])))
    exact ak (aC rfl) ⟨rfl, rfl⟩ (sub (bF .nil) aw)
set_option maxHeartbeats 2000000 in
theorem AR (h : aa.Hd) (bf : Nat) (pp : Option Addr) (pl : List Int) (cp : Nat) (pt : Option Addr) (tr : List Int) (ct : Nat) (pd : Option Addr) (nd cd : Nat) (pk : Option Addr) (nk ck : Nat) (R : ad) (hP : ∀ w0 h, R w0 h → aS U5 pp pl.length pl w0 h) (hT : ∀ w0 h, R w0 h → aS U5 pt tr.length tr w0 h) (hcp : pl.length ≤ cp) (hB : aj.au pl) (hBt : aj.au tr) (hpl : pl.length < 500000000) (htl : tr.length < 500000000) (k : Nat) (hk : pl.length / 3 ≤ k) (hkb : k < 100000000) : aG Tryz.prog 171 [.pointer (some ⟨bf, 0, none⟩), .int .i64 (k : Int)] [ao bf 90 [.int .i64 h.w, .int .i64 h.h, .int .i64 h.dep, .int .i64 h.ax, .bool h.cA, .slice pp pl.length cp, .slice pt tr.length ct, .slice pd nd cd, .slice pk nk ck], R] (aQ fun v G => v = .tuple #[.agg #[.int .u16 0, .int .u16 0, .int .u16 0, .int .u16 0], .bool false] ∧ G = [ao bf 90 [.int .i64 h.w, .int .i64 h.h, .int .i64 h.dep, .int .i64 h.ax, .bool h.cA, .slice pp pl.length cp, .slice pt tr.length ct, .slice pd nd cd, .slice pk nk ck], R]) := by
  refine av [(0, _), (1, _)] Tryz.func171 rfl Tryz.ntmps171 rfl rfl ?_
  intro w0 F
  refine rT bH 2 rfl ?_
  refine cC V.pG rfl ?_
  intro b4
  refine rO bH 10 rfl ?_
  refine oV (ae V.eC rfl bW rfl) ?_
  refine oV (ez (ty' := 0) Tryz.underlying22 rfl) ?_
  refine oV (fY rfl rfl (by omega) (jL (by omega) (by omega) (by omega))) ?_
  refine oV (aW (ft rfl rfl) (by omega)) ?_
  refine rO bH 5 rfl ?_
  refine oV (kY V.uo V.pG rfl (cs := [_, _, _, _]) rfl) ?_
  refine aU (aF V.mm rfl rfl (us := [_, _, _, _]) rfl rfl (by exact cY) (by exact Nat.le_of_ble_eq_true rfl) rfl) ?_
  refine rO bH 5 rfl ?_
  exact ak (e9 V.mm rfl an rfl rfl) ⟨rfl, rfl⟩ (sub (.cons ay (.cons ay .nil)) cD)
set_option maxHeartbeats 2000000 in
theorem Aw (h : aa.Hd) (bf : Nat) (pp : Option Addr) (pl : List Int) (cp : Nat) (pt : Option Addr) (tr : List Int) (ct : Nat) (pd : Option Addr) (nd cd : Nat) (pk : Option Addr) (nk ck : Nat) (R : ad) (hP : ∀ w0 h, R w0 h → aS U5 pp pl.length pl w0 h) (hT : ∀ w0 h, R w0 h → aS U5 pt tr.length tr w0 h) (hcp : pl.length ≤ cp) (hB : aj.au pl) (hBt : aj.au tr) (hpl : pl.length < 500000000) (htl : tr.length < 500000000) (k : Nat) (hk : ¬ pl.length / 3 ≤ k) : aG Tryz.prog 171 [.pointer (some ⟨bf, 0, none⟩), .int .i64 (k : Int)] [ao bf 90 [.int .i64 h.w, .int .i64 h.h, .int .i64 h.dep, .int .i64 h.ax, .bool h.cA, .slice pp pl.length cp, .slice pt tr.length ct, .slice pd nd cd, .slice pk nk ck], R] (aQ fun v G => v = .tuple #[.agg #[.int .u16 ((pl.drop (3 * k)).getD 0 0 * 257), .int .u16 ((pl.drop (3 * k)).getD 1 0 * 257), .int .u16 ((pl.drop (3 * k)).getD 2 0 * 257), .int .u16 (if k < tr.length then tr.getD k 0 * 257 else 65535)], .bool true] ∧ G = [ao bf 90 [.int .i64 h.w, .int .i64 h.h, .int .i64 h.dep, .int .i64 h.ax, .bool h.cA, .slice pp pl.length cp, .slice pt tr.length ct, .slice pd nd cd, .slice pk nk ck], R]) := by
  refine av [(0, _), (1, _)] Tryz.func171 rfl Tryz.ntmps171 rfl rfl ?_
  intro w0 F
  have hBd := aa.eu hB (3 * k)
  have hS : ∀ w0 h, R w0 h → aS U5 (eo pp (3 * k) cp 1) (pl.length - 3 * k) (pl.drop (3 * k)) w0 h := gW (c := U5) hP rfl (3 * k) cp (by omega) hcp
  have hPl : (pl.drop (3 * k)).length = pl.length - 3 * k := List.length_drop
  refine rT bH 2 rfl ?_
  refine cC V.pG rfl ?_
  intro b4
  refine rO bH 10 rfl ?_
  refine oV (ae V.eC rfl bW rfl) ?_
  refine oV (ez (ty' := 0) Tryz.underlying22 rfl) ?_
  refine oV (fY rfl rfl (by omega) (jL (by omega) (by omega) (by omega))) ?_
  refine oV (aA (ft rfl rfl) (by omega)) ?_
  refine rO bH 10 rfl ?_
  refine oV (ae V.eC rfl bW rfl) ?_
  refine oV (aK rfl) ?_
  refine oV (cK (v := .int .i64 ((3 * k : Nat) : Int)) (jv (r := 3 * (k : Int)) rfl rfl wI) (congrArg (Value.int .i64) (by omega))) ?_
  refine oV (dX (3 * k) pl.length cp V.bY rfl ⟨_, rfl⟩ ⟨rfl, rfl⟩ rfl (by omega) (by omega) (by omega)) ?_
  refine rO bH 8 rfl ?_
  refine mS (fun (al : Int) => [(4, .pointer (some ⟨b4, 0, none⟩)), (6, .slice (eo pp (3 * k) cp 1) (pl.length - 3 * k) (cp - 3 * k)), (7, .int .u16 al)]) (fun (al : Int) => ao b4 68 [.int .u16 0, .int .u16 0, .int .u16 0, .int .u16 0] :: ao bf 90 [.int .i64 h.w, .int .i64 h.h, .int .i64 h.dep, .int .i64 h.ax, .bool h.cA, .slice pp pl.length cp, .slice pt tr.length ct, .slice pd nd cd, .slice pk nk ck] :: R :: F) (fun (al : Int) => al = (if k < tr.length then tr.getD k 0 * 257 else 65535)) ?_ ?_
  ·
    rcases (Classical.em (k < tr.length)) with hkt | hkt
    ·
      refine rL bH 6 rfl ?_
      refine oV (ae V.eC rfl bW rfl) ?_
      refine oV (ez (ty' := 0) Tryz.underlying22 rfl) ?_
      refine oV (aW (bu rfl rfl) (by omega)) ?_
      refine rO bH 7 rfl ?_
      refine oV (ae V.eC rfl bW rfl) ?_
      refine oV (aK rfl) ?_
      refine oV (xI V.bY (by exact bE hT dJ)) ?_
      refine oV (xL V.s5 (by exact bE hT dJ)) ?_
      refine ai (tj (U5.g tr (k : Int)) (hBt.get k)) V.AA  rfl .nil rfl ?_
      rintro _ _ ⟨rfl, rfl⟩
      refine rO bH 2 rfl ?_
      refine j1 (_) ?_ (js ln) (sub (gm .nil) aw)
      exact (if_pos hkt).symm
    ·
      refine rL bH 6 rfl ?_
      refine oV (ae V.eC rfl bW rfl) ?_
      refine oV (ez (ty' := 0) Tryz.underlying22 rfl) ?_
      refine oV (aA (bu rfl rfl) (by omega)) ?_
      refine rO bH 4 rfl ?_
      refine j1 (_) ?_ (js ln) (sub (gm .nil) aw)
      exact (if_neg hkt).symm
  ·
    intro al
    rintro hal
    refine rC bH 1 rfl ?_
    refine wN [pz 0 [] [6], pz 1 [0] [], pz 3 [1] [], pz 7 [2] [], pz 0 [] [6], pz 16 [4] [], pz 48 [5] [], pz 127 [6] [], pz 0 [] [6], pz 256 [8] [], pz 768 [9] [], pz 2047 [10] [], pz 0 [] [7], pz 8191 [3, 7, 11, 12] [], pz 16383 [13] [4], pz 32767 [] []] [⟨fun y => ao b4 68 [.int .u16 0, .int .u16 0, .int .u16 0, .int .u16 0], none, some 14, []⟩, ⟨fun y => ao bf 90 [.int .i64 h.w, .int .i64 h.h, .int .i64 h.dep, .int .i64 h.ax, .bool h.cA, .slice pp pl.length cp, .slice pt tr.length ct, .slice pd nd cd, .slice pk nk ck], none, none, []⟩, ⟨fun y => R, none, none, [1, 2, 5, 6, 9, 10]⟩, ⟨fun y => ao b4 68 [.int .u16 (U5.g (pl.drop (3 * k)) 0 * 257), .int .u16 (U5.g (pl.drop (3 * k)) 1 * 257), .int .u16 (U5.g (pl.drop (3 * k)) 2 * 257), .int .u16 al], some 14, none, []⟩] F V.mixed ?_
    refine nM ?_
    refine nR (fun y FF hA => xI V.bY (by exact bE hS an)) ?_
    refine nR (fun y FF hA => xL V.s5 (by exact bE hS an)) ?_
    refine nE (fun y FF hA => bO (Post := []) (tj (U5.g (pl.drop (3 * k)) 0) (hBd.get 0)) V.AA rfl .nil (fun v G h => by rcases h with ⟨rfl, rfl⟩; exact ⟨rfl, .refl _⟩)) ?_
    refine nM ?_
    refine nR (fun y FF hA => xI V.bY (by exact bE hS an)) ?_
    refine nR (fun y FF hA => xL V.s5 (by exact bE hS an)) ?_
    refine nE (fun y FF hA => bO (Post := []) (tj (U5.g (pl.drop (3 * k)) 1) (hBd.get 1)) V.AA rfl .nil (fun v G h => by rcases h with ⟨rfl, rfl⟩; exact ⟨rfl, .refl _⟩)) ?_
    refine nM ?_
    refine nR (fun y FF hA => xI V.bY (by exact bE hS an)) ?_
    refine nR (fun y FF hA => xL V.s5 (by exact bE hS an)) ?_
    refine nE (fun y FF hA => bO (Post := []) (tj (U5.g (pl.drop (3 * k)) 2) (hBd.get 2)) V.AA rfl .nil (fun v G h => by rcases h with ⟨rfl, rfl⟩; exact ⟨rfl, .refl _⟩)) ?_
    refine nM ?_
    refine nV (fun y hA L => kY V.uo V.pG rfl (cs := [.int .u16 (U5.g (pl.drop (3 * k)) 0 * 257), .int .u16 (U5.g (pl.drop (3 * k)) 1 * 257), .int .u16 (U5.g (pl.drop (3 * k)) 2 * 257), .int .u16 al]) (by kernel_rfl)) ?_
    refine nE (fun y FF hA => dC (aF V.mm rfl rfl (us := [_, _, _, _]) rfl rfl (by exact cY) (by exact Nat.le_of_ble_eq_true rfl) rfl) ⟨rfl, .refl _⟩) ?_
    refine nA ?_
    refine aX ?_
    intro y hA
    clear hA
    refine bN ?_
    refine cu _ (.cons (d := 4) rfl (.cons (d := 5) rfl (.nil _))) ?_
    refine bS (M := ao bf 90 [.int .i64 h.w, .int .i64 h.h, .int .i64 h.dep, .int .i64 h.ax, .bool h.cA, .slice pp pl.length cp, .slice pt tr.length ct, .slice pd nd cd, .slice pk nk ck] :: R :: ao b4 68 [.int .u16 (U5.g (pl.drop (3 * k)) 0 * 257), .int .u16 (U5.g (pl.drop (3 * k)) 1 * 257), .int .u16 (U5.g (pl.drop (3 * k)) 2 * 257), .int .u16 al] :: F) (fun _ _ h => h) ?_
    refine rC bH 1 rfl ?_
    exact ak (e9 V.mm rfl dJ rfl rfl) ⟨by rw [← hal]; rfl, rfl⟩ (sub (bF .nil) cD)
set_option maxHeartbeats 4000000 in
theorem Bn (h : aa.Hd) (bf : Nat) (pp : Option Addr) (pl : List Int) (cp : Nat) (pt : Option Addr) (tr : List Int) (ct : Nat) (pd : Option Addr) (nd cd : Nat) (pk : Option Addr) (ck : Nat) (R : ad) (hP : ∀ w0 h, R w0 h → aS U5 pp pl.length pl w0 h) (hT : ∀ w0 h, R w0 h → aS U5 pt tr.length tr w0 h) (hcp : pl.length ≤ cp) (hB : aj.au pl) (hBt : aj.au tr) (hpl : pl.length < 500000000) (htl : tr.length < 500000000) (pv : Option Addr) (cv : Nat) (v : List Int) (Rk Rv : ad) (hRk : ∀ w0 h_, Rk w0 h_ → aS (aP 3 .i64) pk (aa.bD h tr).length (aa.bD h tr) w0 h_) (hRv : ∀ w0 h_, Rv w0 h_ → aS (aP 3 .i64) pv v.length v w0 h_) (hf : aa.gw ⟨h, pl, tr⟩) (hvl : v.length = (aa.parts h.ax).toNat) (hvx : ∀ x ∈ v, 0 ≤ x ∧ x < 2 ^ h.dep.toNat) (h3 : h.ax = 3) (k : Nat) (hk0 : v.getD 0 0 = (k : Int)) (hkb : k < 100000000) (hk : pl.length / 3 ≤ k) : aG Tryz.prog 151 [.pointer (some ⟨bf, 0, none⟩), .slice pv v.length cv] [ao bf 90 [.int .i64 h.w, .int .i64 h.h, .int .i64 h.dep, .int .i64 h.ax, .bool h.cA, .slice pp pl.length cp, .slice pt tr.length ct, .slice pd nd cd, .slice pk (aa.bD h tr).length ck], Rk, Rv, R] (aQ fun e G => e = .tuple #[.agg #[.int .u16 0, .int .u16 0, .int .u16 0, .int .u16 0], .bool false] ∧ G = [ao bf 90 [.int .i64 h.w, .int .i64 h.h, .int .i64 h.dep, .int .i64 h.ax, .bool h.cA, .slice pp pl.length cp, .slice pt tr.length ct, .slice pd nd cd, .slice pk (aa.bD h tr).length ck], Rk, Rv, R]) := by
  refine av [(0, _), (1, _)] Tryz.func151 rfl Tryz.ntmps151 rfl rfl ?_
  intro w0 F
  have hde : aa.deep h.ax h.dep := by unfold aa.gw at hf; exact hf.1
  have hpc := aa.ij hde
  have hd := aa.iD hde
  have hUl : (v.map (aa.up h.dep)).length = v.length := List.length_map ..
  have hdi := aa.jR hd
  refine rT bH 2 rfl ?_
  refine cC V.pG rfl ?_
  intro b4
  refine rO bH 10 rfl ?_
  refine oV (ae V.s3 rfl bW rfl) ?_
  refine oV (aW (az rfl rfl) (by omega)) ?_
  refine rO bH 7 rfl ?_
  refine oV (xI V.cT (by exact bE hRv eG)) ?_
  refine oV (xL V.s3 (by exact bE hRv eG)) ?_
  rw [show (aP 3 .i64).g v 0 = (k : Int) from hk0]
  refine ai (AR h bf pp pl cp pt tr ct pd nd cd pk (aa.bD h tr).length ck R hP hT hcp hB hBt hpl htl k hk (by omega)) V.Kc  rfl (.cons ay (.cons dI .nil)) rfl ?_
  rintro _ _ ⟨rfl, rfl⟩
  refine rO bH 2 rfl ?_
  refine aU (aF V.mm rfl rfl (us := [_, _, _, _]) rfl rfl (by exact ni) (by exact Nat.le_of_ble_eq_true rfl) rfl) ?_
  refine rO bH 5 rfl ?_
  exact ak (e9 V.mm rfl dJ rfl rfl) ⟨rfl, rfl⟩ (sub (ar (.cons bX (.cons bX (.cons dQ .nil)))) cD)
set_option maxHeartbeats 4000000 in
theorem BP (h : aa.Hd) (bf : Nat) (pp : Option Addr) (pl : List Int) (cp : Nat) (pt : Option Addr) (tr : List Int) (ct : Nat) (pd : Option Addr) (nd cd : Nat) (pk : Option Addr) (ck : Nat) (R : ad) (hP : ∀ w0 h, R w0 h → aS U5 pp pl.length pl w0 h) (hT : ∀ w0 h, R w0 h → aS U5 pt tr.length tr w0 h) (hcp : pl.length ≤ cp) (hB : aj.au pl) (hBt : aj.au tr) (hpl : pl.length < 500000000) (htl : tr.length < 500000000) (pv : Option Addr) (cv : Nat) (v : List Int) (Rk Rv : ad) (hRk : ∀ w0 h_, Rk w0 h_ → aS (aP 3 .i64) pk (aa.bD h tr).length (aa.bD h tr) w0 h_) (hRv : ∀ w0 h_, Rv w0 h_ → aS (aP 3 .i64) pv v.length v w0 h_) (hf : aa.gw ⟨h, pl, tr⟩) (hvl : v.length = (aa.parts h.ax).toNat) (hvx : ∀ x ∈ v, 0 ≤ x ∧ x < 2 ^ h.dep.toNat) (h3 : h.ax = 3) (k : Nat) (hk0 : v.getD 0 0 = (k : Int)) (hkb : k < 100000000) (hk : ¬ pl.length / 3 ≤ k) : aG Tryz.prog 151 [.pointer (some ⟨bf, 0, none⟩), .slice pv v.length cv] [ao bf 90 [.int .i64 h.w, .int .i64 h.h, .int .i64 h.dep, .int .i64 h.ax, .bool h.cA, .slice pp pl.length cp, .slice pt tr.length ct, .slice pd nd cd, .slice pk (aa.bD h tr).length ck], Rk, Rv, R] (aQ fun e G => e = .tuple #[.agg #[.int .u16 ((pl.drop (3 * k)).getD 0 0 * 257), .int .u16 ((pl.drop (3 * k)).getD 1 0 * 257), .int .u16 ((pl.drop (3 * k)).getD 2 0 * 257), .int .u16 (if k < tr.length then tr.getD k 0 * 257 else 65535)], .bool true] ∧ G = [ao bf 90 [.int .i64 h.w, .int .i64 h.h, .int .i64 h.dep, .int .i64 h.ax, .bool h.cA, .slice pp pl.length cp, .slice pt tr.length ct, .slice pd nd cd, .slice pk (aa.bD h tr).length ck], Rk, Rv, R]) := by
  refine av [(0, _), (1, _)] Tryz.func151 rfl Tryz.ntmps151 rfl rfl ?_
  intro w0 F
  have hde : aa.deep h.ax h.dep := by unfold aa.gw at hf; exact hf.1
  have hpc := aa.ij hde
  have hd := aa.iD hde
  have hUl : (v.map (aa.up h.dep)).length = v.length := List.length_map ..
  have hdi := aa.jR hd
  refine rT bH 2 rfl ?_
  refine cC V.pG rfl ?_
  intro b4
  refine rO bH 10 rfl ?_
  refine oV (ae V.s3 rfl bW rfl) ?_
  refine oV (aW (az rfl rfl) (by omega)) ?_
  refine rO bH 7 rfl ?_
  refine oV (xI V.cT (by exact bE hRv eG)) ?_
  refine oV (xL V.s3 (by exact bE hRv eG)) ?_
  rw [show (aP 3 .i64).g v 0 = (k : Int) from hk0]
  refine ai (Aw h bf pp pl cp pt tr ct pd nd cd pk (aa.bD h tr).length ck R hP hT hcp hB hBt hpl htl k hk) V.Kc  rfl (.cons ay (.cons dI .nil)) rfl ?_
  rintro _ _ ⟨rfl, rfl⟩
  refine rO bH 2 rfl ?_
  refine aU (aF V.mm rfl rfl (us := [_, _, _, _]) rfl rfl (by exact ni) (by exact Nat.le_of_ble_eq_true rfl) rfl) ?_
  refine rO bH 5 rfl ?_
  exact ak (e9 V.mm rfl dJ rfl rfl) ⟨rfl, rfl⟩ (sub (ar (.cons bX (.cons bX (.cons dQ .nil)))) cD)
set_option maxHeartbeats 4000000 in
theorem DW (h : aa.Hd) (bf : Nat) (pp : Option Addr) (pl : List Int) (cp : Nat) (pt : Option Addr) (tr : List Int) (ct : Nat) (pd : Option Addr) (nd cd : Nat) (pk : Option Addr) (ck : Nat) (R : ad) (hP : ∀ w0 h, R w0 h → aS U5 pp pl.length pl w0 h) (hT : ∀ w0 h, R w0 h → aS U5 pt tr.length tr w0 h) (hcp : pl.length ≤ cp) (hB : aj.au pl) (hBt : aj.au tr) (hpl : pl.length < 500000000) (htl : tr.length < 500000000) (pv : Option Addr) (cv : Nat) (v : List Int) (Rk Rv : ad) (hRk : ∀ w0 h_, Rk w0 h_ → aS (aP 3 .i64) pk (aa.bD h tr).length (aa.bD h tr) w0 h_) (hRv : ∀ w0 h_, Rv w0 h_ → aS (aP 3 .i64) pv v.length v w0 h_) (hf : aa.gw ⟨h, pl, tr⟩) (hvl : v.length = (aa.parts h.ax).toNat) (hvx : ∀ x ∈ v, 0 ≤ x ∧ x < 2 ^ h.dep.toNat) (h3 : ¬ h.ax = 3) (c0 c1 c2 c3 : Int) (hpx : aa.jh ⟨h, pl, tr⟩ v = some [c0, c1, c2, c3]) : aG Tryz.prog 151 [.pointer (some ⟨bf, 0, none⟩), .slice pv v.length cv] [ao bf 90 [.int .i64 h.w, .int .i64 h.h, .int .i64 h.dep, .int .i64 h.ax, .bool h.cA, .slice pp pl.length cp, .slice pt tr.length ct, .slice pd nd cd, .slice pk (aa.bD h tr).length ck], Rk, Rv, R] (aQ fun e G => e = .tuple #[.agg #[.int .u16 c0, .int .u16 c1, .int .u16 c2, .int .u16 c3], .bool true] ∧ G = [ao bf 90 [.int .i64 h.w, .int .i64 h.h, .int .i64 h.dep, .int .i64 h.ax, .bool h.cA, .slice pp pl.length cp, .slice pt tr.length ct, .slice pd nd cd, .slice pk (aa.bD h tr).length ck], Rk, Rv, R]) := by
  refine av [(0, _), (1, _)] Tryz.func151 rfl Tryz.ntmps151 rfl rfl ?_
  intro w0 F
  have hde : aa.deep h.ax h.dep := by unfold aa.gw at hf; exact hf.1
  have hpc := aa.ij hde
  have hd := aa.iD hde
  have hUl : (v.map (aa.up h.dep)).length = v.length := List.length_map ..
  have hdi := aa.jR hd
  refine rT bH 2 rfl ?_
  refine cC V.pG rfl ?_
  intro b4
  refine rO bH 10 rfl ?_
  refine oV (ae V.s3 rfl bW rfl) ?_
  refine oV (aA (az rfl rfl) (by omega)) ?_
  refine rO bH 19 rfl ?_
  refine gp (Row (aP 62 .u16) none 0 0 []) (Row.nil _ _ _) ?_
  rw [show ([] : List Int) = (v.map (aa.up h.dep)).take 0 from rfl]
  refine iR (fun (i : Nat) (ps : Option Addr) (cs : Nat) => [(0, .pointer (some ⟨bf, 0, none⟩)), (1, .slice pv v.length cv), (4, .pointer (some ⟨b4, 0, none⟩)), (6, .slice ps i cs), (25, .slice pv v.length cv), (26, .int .i64 (v.length : Int)), (27, .int .i64 (i : Int))]) (fun (i : Nat) (ps : Option Addr) (cs : Nat) => Row (aP 62 .u16) ps i cs ((v.map (aa.up h.dep)).take i) :: ao b4 68 [.int .u16 0, .int .u16 0, .int .u16 0, .int .u16 0] :: ao bf 90 [.int .i64 h.w, .int .i64 h.h, .int .i64 h.dep, .int .i64 h.ax, .bool h.cA, .slice pp pl.length cp, .slice pt tr.length ct, .slice pd nd cd, .slice pk (aa.bD h tr).length ck] :: Rk :: Rv :: R :: F) (fun (i : Nat) (ps : Option Addr) (cs : Nat) => i ≤ v.length) (fun (i : Nat) (ps : Option Addr) (cs : Nat) => v.length - i) (i3 (0) (none) (0) ?_ (kG (dp ln)) (sub (ar (pF .nil)) aw)) ?_
  ·
    exact Nat.zero_le _
  intro i ps cs
  rintro hi
  refine rL bH 6 rfl ?_
  refine aN rfl (fun h28 => ?_) (fun h28 => ?_)
  ·
    refine rC bH 5 rfl ?_
    have hvi : 0 ≤ ((aP 3 .i64).g v (i : Int)) ∧ ((aP 3 .i64).g v (i : Int)) < 2 ^ h.dep.toNat := hvx _ (aa.jk (by omega))
    refine bK ?_
    refine oV (xI V.cT (by exact bE hRv jF)) ?_
    refine oV (xL V.s3 (by exact bE hRv jF)) ?_
    refine rO bH 10 rfl ?_
    refine oV (ae V.s3 rfl dJ rfl) ?_
    refine ai (Lb h.dep ((aP 3 .i64).g v (i : Int)) hd hvi) V.KO  rfl .nil rfl ?_
    rintro _ _ ⟨rfl, rfl⟩
    refine rO bH 10 rfl ?_
    refine cV (aP 62 .u16) [(aa.up h.dep ((aP 3 .i64).g v (i : Int)))] V.gX V.GZ rfl rfl rfl rfl rfl rfl ?_
    intro b43
    refine dw (c := (aP 62 .u16)) V.gX V.GZ rfl rfl rfl rfl ay (own an) (by omega) rfl ?_
    intro p44 c44
    refine cQ bH 8 rfl (by omega) ?_
    rw [show (v.map (aa.up h.dep)).take i ++ [aa.up h.dep ((aP 3 .i64).g v (i : Int))] = (v.map (aa.up h.dep)).take (i + 1) from aa.A5 (by omega)]
    exact j3 (i + 1) _ _ ⟨by omega, by omega⟩ (kG (dp ln)) (sub (ar (.cons ay (.cons ay (.cons ay (.cons ay (.cons ay .nil)))))) cD)
  ·
    refine rC bH 6 rfl ?_
    obtain rfl : i = v.length := by omega
    rw [List.take_of_length_le (by omega)]
    refine rC bH 4 rfl ?_
    refine mS (fun (al : Int) => [(0, .pointer (some ⟨bf, 0, none⟩)), (1, .slice pv v.length cv), (4, .pointer (some ⟨b4, 0, none⟩)), (6, .slice ps v.length cs), (11, .int .u16 al)]) (fun (al : Int) => Row (aP 62 .u16) ps v.length cs (v.map (aa.up h.dep)) :: ao b4 68 [.int .u16 0, .int .u16 0, .int .u16 0, .int .u16 0] :: ao bf 90 [.int .i64 h.w, .int .i64 h.h, .int .i64 h.dep, .int .i64 h.ax, .bool h.cA, .slice pp pl.length cp, .slice pt tr.length ct, .slice pd nd cd, .slice pk (aa.bD h tr).length ck] :: Rk :: Rv :: R :: F) (fun (al : Int) => al = (if h.ax = 4 ∨ h.ax = 6 then (v.map (aa.up h.dep)).getD ((v.map (aa.up h.dep)).length - 1) 0 else 65535)) ?_ ?_
    ·
      rcases ((by omega : h.ax = 4 ∨ (¬ h.ax = 4 ∧ h.ax = 6) ∨ (¬ h.ax = 4 ∧ ¬ h.ax = 6))) with a1 | ⟨a1, a2⟩ | ⟨a1, a2⟩
      ·
        refine rL bH 6 rfl ?_
        refine oV (ae V.s3 rfl dJ rfl) ?_
        refine oV (aW (az rfl rfl) a1) ?_
        refine cQ bH 16 rfl (by omega) ?_
        refine oV (xI V.gX (own an)) ?_
        refine oV (xL V.lD (own an)) ?_
        refine rO bH 2 rfl ?_
        refine j1 (_) ?_ (dp ln) (sub (ar (pF .nil)) aw)
        (rw [if_pos (by omega), hUl]; exact gE (v.length - 1) (by omega))
      ·
        refine rL bH 6 rfl ?_
        refine oV (ae V.s3 rfl dJ rfl) ?_
        refine oV (aA (az rfl rfl) a1) ?_
        refine rO bH 5 rfl ?_
        refine ag rfl ?_
        refine oV (ae V.s3 rfl dJ rfl) ?_
        refine ag rfl ?_
        refine oV (aW (az rfl rfl) a2) ?_
        refine cQ bH 9 rfl (by omega) ?_
        refine oV (xI V.gX (own an)) ?_
        refine oV (xL V.lD (own an)) ?_
        refine rO bH 2 rfl ?_
        refine j1 (_) ?_ (dp ln) (sub (ar (pF .nil)) aw)
        (rw [if_pos (by omega), hUl]; exact gE (v.length - 1) (by omega))
      ·
        refine rL bH 6 rfl ?_
        refine oV (ae V.s3 rfl dJ rfl) ?_
        refine oV (aA (az rfl rfl) a1) ?_
        refine rO bH 5 rfl ?_
        refine ag rfl ?_
        refine oV (ae V.s3 rfl dJ rfl) ?_
        refine ag rfl ?_
        refine oV (aA (az rfl rfl) a2) ?_
        refine rO bH 5 rfl ?_
        refine j1 (_) ?_ (dp ln) (sub (ar (pF .nil)) aw)
        (rw [if_neg (by omega)]; done)
    ·
      intro al
      rintro hal
      refine mS (fun (al2 : Int) => [(0, .pointer (some ⟨bf, 0, none⟩)), (4, .pointer (some ⟨b4, 0, none⟩)), (6, .slice ps v.length cs), (11, .int .u16 al2)]) (fun (al2 : Int) => Row (aP 62 .u16) ps v.length cs (v.map (aa.up h.dep)) :: ao b4 68 [.int .u16 0, .int .u16 0, .int .u16 0, .int .u16 0] :: ao bf 90 [.int .i64 h.w, .int .i64 h.h, .int .i64 h.dep, .int .i64 h.ax, .bool h.cA, .slice pp pl.length cp, .slice pt tr.length ct, .slice pd nd cd, .slice pk (aa.bD h tr).length ck] :: Rk :: Rv :: R :: F) (fun (al2 : Int) => al2 = aa.qD ⟨h, pl, tr⟩ v) ?_ ?_
      ·
        rcases ((by by_cases q : 0 < (aa.bD h tr).length; by_cases q2 : v = (aa.bD h tr); exact .inr (.inl ⟨q, q2⟩); exact .inr (.inr ⟨q, q2⟩); exact .inl q : ¬ 0 < (aa.bD h tr).length ∨ (0 < (aa.bD h tr).length ∧ v = (aa.bD h tr)) ∨ (0 < (aa.bD h tr).length ∧ ¬ v = (aa.bD h tr)))) with b1 | ⟨b1, b2⟩ | ⟨b1, b2⟩
        ·
          refine rL bH 5 rfl ?_
          refine oV (ae V.lg rfl dJ rfl) ?_
          refine oV (ez (ty' := 0) Tryz.underlying47 rfl) ?_
          refine oV (aA (bd rfl rfl) (by omega)) ?_
          refine rO bH 12 rfl ?_
          refine j1 (_) ?_ (fo ln) (sub (ar (pF .nil)) aw)
          (unfold aa.qD; rw [if_neg (fun q => b1 q.1)]; exact hal)
        ·
          refine rL bH 5 rfl ?_
          refine oV (ae V.lg rfl dJ rfl) ?_
          refine oV (ez (ty' := 0) Tryz.underlying47 rfl) ?_
          refine oV (aW (bd rfl rfl) (by omega)) ?_
          refine rO bH 5 rfl ?_
          refine ag rfl ?_
          refine oV (ae V.lg rfl dJ rfl) ?_
          refine ag rfl ?_
          refine ai (yX pv v.length cv v rfl Rv hRv pk (aa.bD h tr).length ck (aa.bD h tr) rfl Rk hRk (by omega) true (decide_eq_true b2).symm) V.KP  rfl (.cons ig (.cons dI .nil)) rfl ?_
          rintro _ _ ⟨rfl, rfl⟩
          refine rO bH 7 rfl ?_
          refine j1 (_) ?_ (fo ln) (sub (.cons bX (.cons bX (.cons bX (.cons ay (bF .nil))))) aw)
          (unfold aa.qD; rw [if_pos ⟨b1, b2⟩]; done)
        ·
          refine rL bH 5 rfl ?_
          refine oV (ae V.lg rfl dJ rfl) ?_
          refine oV (ez (ty' := 0) Tryz.underlying47 rfl) ?_
          refine oV (aW (bd rfl rfl) (by omega)) ?_
          refine rO bH 5 rfl ?_
          refine ag rfl ?_
          refine oV (ae V.lg rfl dJ rfl) ?_
          refine ag rfl ?_
          refine ai (yX pv v.length cv v rfl Rv hRv pk (aa.bD h tr).length ck (aa.bD h tr) rfl Rk hRk (by omega) false (decide_eq_false b2).symm) V.KP  rfl (.cons ig (.cons dI .nil)) rfl ?_
          rintro _ _ ⟨rfl, rfl⟩
          refine rO bH 5 rfl ?_
          refine j1 (_) ?_ (fo ln) (sub (.cons bX (.cons bX (.cons bX (.cons ay (bF .nil))))) aw)
          (unfold aa.qD; rw [if_neg (fun q => b2 q.2)]; exact hal)
      ·
        intro al2
        rintro hal2
        rcases ((by omega : h.ax = 0 ∨ (¬ h.ax = 0 ∧ h.ax = 4) ∨ (¬ h.ax = 0 ∧ ¬ h.ax = 4))) with a1 | ⟨a1, a2⟩ | ⟨a1, a2⟩
        ·
          refine rC bH 7 rfl ?_
          refine oV (ae V.s3 rfl dJ rfl) ?_
          refine oV (aW (az rfl rfl) a1) ?_
          refine rO bH 12 rfl ?_
          refine wN [pz 0 [] [6], pz 1 [0] [], pz 3 [1] [], pz 0 [] [6], pz 8 [3] [], pz 24 [4] [], pz 0 [] [6], pz 64 [6] [], pz 192 [7] [], pz 0 [] [11], pz 1023 [2, 5, 8, 9] [], pz 2047 [10] [4], pz 4095 [] []] [⟨fun y => Row (aP 62 .u16) ps v.length cs (v.map (aa.up h.dep)), none, none, [1, 2, 4, 5, 7, 8]⟩, ⟨fun y => ao b4 68 [.int .u16 0, .int .u16 0, .int .u16 0, .int .u16 0], none, some 11, []⟩, ⟨fun y => ao bf 90 [.int .i64 h.w, .int .i64 h.h, .int .i64 h.dep, .int .i64 h.ax, .bool h.cA, .slice pp pl.length cp, .slice pt tr.length ct, .slice pd nd cd, .slice pk (aa.bD h tr).length ck], none, none, []⟩, ⟨fun y => Rk, none, none, []⟩, ⟨fun y => Rv, none, none, []⟩, ⟨fun y => R, none, none, []⟩, ⟨fun y => ao b4 68 [.int .u16 ((aP 62 .u16).g (v.map (aa.up h.dep)) 0), .int .u16 ((aP 62 .u16).g (v.map (aa.up h.dep)) 0), .int .u16 ((aP 62 .u16).g (v.map (aa.up h.dep)) 0), .int .u16 al2], some 11, none, []⟩] F V.mixed ?_
          refine nM ?_
          refine nR (fun y FF hA => xI V.gX (own an)) ?_
          refine nR (fun y FF hA => xL V.lD (own an)) ?_
          refine nM ?_
          refine nR (fun y FF hA => xI V.gX (own an)) ?_
          refine nR (fun y FF hA => xL V.lD (own an)) ?_
          refine nM ?_
          refine nR (fun y FF hA => xI V.gX (own an)) ?_
          refine nR (fun y FF hA => xL V.lD (own an)) ?_
          refine nM ?_
          refine nV (fun y hA L => kY V.uo V.pG rfl (cs := [.int .u16 ((aP 62 .u16).g (v.map (aa.up h.dep)) 0), .int .u16 ((aP 62 .u16).g (v.map (aa.up h.dep)) 0), .int .u16 ((aP 62 .u16).g (v.map (aa.up h.dep)) 0), .int .u16 al2]) (by kernel_rfl)) ?_
          refine nE (fun y FF hA => dC (aF V.mm rfl rfl (us := [_, _, _, _]) rfl rfl (by exact cY) (by exact Nat.le_of_ble_eq_true rfl) rfl) ⟨rfl, .refl _⟩) ?_
          refine nA ?_
          refine aX ?_
          intro y hA
          clear hA
          refine bN ?_
          refine cu _ (.cons (d := 4) rfl (.cons (d := 5) rfl (.nil _))) ?_
          refine bS (M := Row (aP 62 .u16) ps v.length cs (v.map (aa.up h.dep)) :: ao bf 90 [.int .i64 h.w, .int .i64 h.h, .int .i64 h.dep, .int .i64 h.ax, .bool h.cA, .slice pp pl.length cp, .slice pt tr.length ct, .slice pd nd cd, .slice pk (aa.bD h tr).length ck] :: Rk :: Rv :: R :: ao b4 68 [.int .u16 ((aP 62 .u16).g (v.map (aa.up h.dep)) 0), .int .u16 ((aP 62 .u16).g (v.map (aa.up h.dep)) 0), .int .u16 ((aP 62 .u16).g (v.map (aa.up h.dep)) 0), .int .u16 al2] :: F) (fun _ _ h => h) ?_
          refine bS (sub .nil (.skip (.keep (.keep (.keep (.keep (.keep .refl))))))) ?_
          simp only [List.nil_append]
          refine rC bH 2 rfl ?_
          obtain ⟨e0, e1, e2, e3⟩ := aa.vP ((aa.zp (f := ⟨h, pl, tr⟩) (v := v) (show h.ax = 0 ∨ h.ax = 4 from by omega)).symm.trans hpx)
          exact ak (e9 V.mm rfl jF rfl rfl) ⟨by rw [← e0, ← e1, ← e2, ← e3, hal2]; rfl, rfl⟩ (sub (nH .nil) cD)
        ·
          refine rC bH 7 rfl ?_
          refine oV (ae V.s3 rfl dJ rfl) ?_
          refine oV (aA (az rfl rfl) a1) ?_
          refine rO bH 5 rfl ?_
          refine ag rfl ?_
          refine oV (ae V.s3 rfl dJ rfl) ?_
          refine ag rfl ?_
          refine oV (aW (az rfl rfl) a2) ?_
          refine rO bH 5 rfl ?_
          refine wN [pz 0 [] [6], pz 1 [0] [], pz 3 [1] [], pz 0 [] [6], pz 8 [3] [], pz 24 [4] [], pz 0 [] [6], pz 64 [6] [], pz 192 [7] [], pz 0 [] [11], pz 1023 [2, 5, 8, 9] [], pz 2047 [10] [4], pz 4095 [] []] [⟨fun y => Row (aP 62 .u16) ps v.length cs (v.map (aa.up h.dep)), none, none, [1, 2, 4, 5, 7, 8]⟩, ⟨fun y => ao b4 68 [.int .u16 0, .int .u16 0, .int .u16 0, .int .u16 0], none, some 11, []⟩, ⟨fun y => ao bf 90 [.int .i64 h.w, .int .i64 h.h, .int .i64 h.dep, .int .i64 h.ax, .bool h.cA, .slice pp pl.length cp, .slice pt tr.length ct, .slice pd nd cd, .slice pk (aa.bD h tr).length ck], none, none, []⟩, ⟨fun y => Rk, none, none, []⟩, ⟨fun y => Rv, none, none, []⟩, ⟨fun y => R, none, none, []⟩, ⟨fun y => ao b4 68 [.int .u16 ((aP 62 .u16).g (v.map (aa.up h.dep)) 0), .int .u16 ((aP 62 .u16).g (v.map (aa.up h.dep)) 0), .int .u16 ((aP 62 .u16).g (v.map (aa.up h.dep)) 0), .int .u16 al2], some 11, none, []⟩] F V.mixed ?_
          refine nM ?_
          refine nR (fun y FF hA => xI V.gX (own an)) ?_
          refine nR (fun y FF hA => xL V.lD (own an)) ?_
          refine nM ?_
          refine nR (fun y FF hA => xI V.gX (own an)) ?_
          refine nR (fun y FF hA => xL V.lD (own an)) ?_
          refine nM ?_
          refine nR (fun y FF hA => xI V.gX (own an)) ?_
          refine nR (fun y FF hA => xL V.lD (own an)) ?_
          refine nM ?_
          refine nV (fun y hA L => kY V.uo V.pG rfl (cs := [.int .u16 ((aP 62 .u16).g (v.map (aa.up h.dep)) 0), .int .u16 ((aP 62 .u16).g (v.map (aa.up h.dep)) 0), .int .u16 ((aP 62 .u16).g (v.map (aa.up h.dep)) 0), .int .u16 al2]) (by kernel_rfl)) ?_
          refine nE (fun y FF hA => dC (aF V.mm rfl rfl (us := [_, _, _, _]) rfl rfl (by exact cY) (by exact Nat.le_of_ble_eq_true rfl) rfl) ⟨rfl, .refl _⟩) ?_
          refine nA ?_
          refine aX ?_
          intro y hA
          clear hA
          refine bN ?_
          refine cu _ (.cons (d := 4) rfl (.cons (d := 5) rfl (.nil _))) ?_
          refine bS (M := Row (aP 62 .u16) ps v.length cs (v.map (aa.up h.dep)) :: ao bf 90 [.int .i64 h.w, .int .i64 h.h, .int .i64 h.dep, .int .i64 h.ax, .bool h.cA, .slice pp pl.length cp, .slice pt tr.length ct, .slice pd nd cd, .slice pk (aa.bD h tr).length ck] :: Rk :: Rv :: R :: ao b4 68 [.int .u16 ((aP 62 .u16).g (v.map (aa.up h.dep)) 0), .int .u16 ((aP 62 .u16).g (v.map (aa.up h.dep)) 0), .int .u16 ((aP 62 .u16).g (v.map (aa.up h.dep)) 0), .int .u16 al2] :: F) (fun _ _ h => h) ?_
          refine bS (sub .nil (.skip (.keep (.keep (.keep (.keep (.keep .refl))))))) ?_
          simp only [List.nil_append]
          refine rC bH 2 rfl ?_
          obtain ⟨e0, e1, e2, e3⟩ := aa.vP ((aa.zp (f := ⟨h, pl, tr⟩) (v := v) (show h.ax = 0 ∨ h.ax = 4 from by omega)).symm.trans hpx)
          exact ak (e9 V.mm rfl jF rfl rfl) ⟨by rw [← e0, ← e1, ← e2, ← e3, hal2]; rfl, rfl⟩ (sub (nH .nil) cD)
        ·
          refine rC bH 7 rfl ?_
          refine oV (ae V.s3 rfl dJ rfl) ?_
          refine oV (aA (az rfl rfl) a1) ?_
          refine rO bH 5 rfl ?_
          refine ag rfl ?_
          refine oV (ae V.s3 rfl dJ rfl) ?_
          refine ag rfl ?_
          refine oV (aA (az rfl rfl) a2) ?_
          refine rO bH 7 rfl ?_
          refine wN [pz 0 [] [6], pz 1 [0] [], pz 3 [1] [], pz 0 [] [6], pz 8 [3] [], pz 24 [4] [], pz 0 [] [6], pz 64 [6] [], pz 192 [7] [], pz 0 [] [11], pz 1023 [2, 5, 8, 9] [], pz 2047 [10] [4], pz 4095 [] []] [⟨fun y => Row (aP 62 .u16) ps v.length cs (v.map (aa.up h.dep)), none, none, [1, 2, 4, 5, 7, 8]⟩, ⟨fun y => ao b4 68 [.int .u16 0, .int .u16 0, .int .u16 0, .int .u16 0], none, some 11, []⟩, ⟨fun y => ao bf 90 [.int .i64 h.w, .int .i64 h.h, .int .i64 h.dep, .int .i64 h.ax, .bool h.cA, .slice pp pl.length cp, .slice pt tr.length ct, .slice pd nd cd, .slice pk (aa.bD h tr).length ck], none, none, []⟩, ⟨fun y => Rk, none, none, []⟩, ⟨fun y => Rv, none, none, []⟩, ⟨fun y => R, none, none, []⟩, ⟨fun y => ao b4 68 [.int .u16 ((aP 62 .u16).g (v.map (aa.up h.dep)) 0), .int .u16 ((aP 62 .u16).g (v.map (aa.up h.dep)) 1), .int .u16 ((aP 62 .u16).g (v.map (aa.up h.dep)) 2), .int .u16 al2], some 11, none, []⟩] F V.mixed ?_
          refine nM ?_
          refine nR (fun y FF hA => xI V.gX (own an)) ?_
          refine nR (fun y FF hA => xL V.lD (own an)) ?_
          refine nM ?_
          refine nR (fun y FF hA => xI V.gX (own an)) ?_
          refine nR (fun y FF hA => xL V.lD (own an)) ?_
          refine nM ?_
          refine nR (fun y FF hA => xI V.gX (own an)) ?_
          refine nR (fun y FF hA => xL V.lD (own an)) ?_
          refine nM ?_
          refine nV (fun y hA L => kY V.uo V.pG rfl (cs := [.int .u16 ((aP 62 .u16).g (v.map (aa.up h.dep)) 0), .int .u16 ((aP 62 .u16).g (v.map (aa.up h.dep)) 1), .int .u16 ((aP 62 .u16).g (v.map (aa.up h.dep)) 2), .int .u16 al2]) (by kernel_rfl)) ?_
          refine nE (fun y FF hA => dC (aF V.mm rfl rfl (us := [_, _, _, _]) rfl rfl (by exact cY) (by exact Nat.le_of_ble_eq_true rfl) rfl) ⟨rfl, .refl _⟩) ?_
          refine nA ?_
          refine aX ?_
          intro y hA
          clear hA
          refine bN ?_
          refine cu _ (.cons (d := 4) rfl (.cons (d := 5) rfl (.nil _))) ?_
          refine bS (M := Row (aP 62 .u16) ps v.length cs (v.map (aa.up h.dep)) :: ao bf 90 [.int .i64 h.w, .int .i64 h.h, .int .i64 h.dep, .int .i64 h.ax, .bool h.cA, .slice pp pl.length cp, .slice pt tr.length ct, .slice pd nd cd, .slice pk (aa.bD h tr).length ck] :: Rk :: Rv :: R :: ao b4 68 [.int .u16 ((aP 62 .u16).g (v.map (aa.up h.dep)) 0), .int .u16 ((aP 62 .u16).g (v.map (aa.up h.dep)) 1), .int .u16 ((aP 62 .u16).g (v.map (aa.up h.dep)) 2), .int .u16 al2] :: F) (fun _ _ h => h) ?_
          refine bS (sub .nil (.skip (.keep (.keep (.keep (.keep (.keep .refl))))))) ?_
          simp only [List.nil_append]
          refine rC bH 1 rfl ?_
          obtain ⟨e0, e1, e2, e3⟩ := aa.vP ((aa.I4 (f := ⟨h, pl, tr⟩) (v := v) (show ¬ (h.ax = 0 ∨ h.ax = 4) from by omega) h3).symm.trans hpx)
          exact ak (e9 V.mm rfl jF rfl rfl) ⟨by rw [← e0, ← e1, ← e2, ← e3, hal2]; rfl, rfl⟩ (sub (nH .nil) cD)
theorem EZ (h : aa.Hd) (bf : Nat) (pp : Option Addr) (pl : List Int) (cp : Nat) (pt : Option Addr) (tr : List Int) (ct : Nat) (pd : Option Addr) (nd cd : Nat) (pk : Option Addr) (ck : Nat) (R : ad) (hP : ∀ w0 h, R w0 h → aS U5 pp pl.length pl w0 h) (hT : ∀ w0 h, R w0 h → aS U5 pt tr.length tr w0 h) (hcp : pl.length ≤ cp) (hB : aj.au pl) (hBt : aj.au tr) (hpl : pl.length < 500000000) (htl : tr.length < 500000000) (pv : Option Addr) (cv : Nat) (v : List Int) (Rk Rv : ad) (hRk : ∀ w0 h_, Rk w0 h_ → aS (aP 3 .i64) pk (aa.bD h tr).length (aa.bD h tr) w0 h_) (hRv : ∀ w0 h_, Rv w0 h_ → aS (aP 3 .i64) pv v.length v w0 h_) (hf : aa.gw ⟨h, pl, tr⟩) (hvl : v.length = (aa.parts h.ax).toNat) (hvx : ∀ x ∈ v, 0 ≤ x ∧ x < 2 ^ h.dep.toNat) (hk2 : v.getD 0 0 < 100000000) (hpx : aa.jh ⟨h, pl, tr⟩ v = none) : aG Tryz.prog 151 [.pointer (some ⟨bf, 0, none⟩), .slice pv v.length cv] [ao bf 90 [.int .i64 h.w, .int .i64 h.h, .int .i64 h.dep, .int .i64 h.ax, .bool h.cA, .slice pp pl.length cp, .slice pt tr.length ct, .slice pd nd cd, .slice pk (aa.bD h tr).length ck], Rk, Rv, R] (aQ fun e G => e = .tuple #[.agg #[.int .u16 0, .int .u16 0, .int .u16 0, .int .u16 0], .bool false] ∧ G = [ao bf 90 [.int .i64 h.w, .int .i64 h.h, .int .i64 h.dep, .int .i64 h.ax, .bool h.cA, .slice pp pl.length cp, .slice pt tr.length ct, .slice pd nd cd, .slice pk (aa.bD h tr).length ck], Rk, Rv, R]) := by
  by_cases h3 : h.ax = 3
  · have hx := hvx (v.getD 0 0) (aa.jk (by have := aa.ij (c := h.ax) (d := h.dep) (by unfold aa.gw at hf; exact hf.1); omega))
    obtain ⟨k, hk⟩ : ∃ k : Nat, v.getD 0 0 = (k : Int) := ⟨(v.getD 0 0).toNat, by omega⟩
    rw [aa.xD h3, hk] at hpx
    refine Bn h bf pp pl cp pt tr ct pd nd cd pk ck R hP hT hcp hB hBt hpl htl pv cv v Rk Rv hRk hRv hf hvl hvx h3 k hk (by omega) ?_
    refine Classical.not_not.1 fun q => ?_
    rw [show ((k : Int)).toNat = k from rfl, aa.C1 q] at hpx
    cases hpx
  · rw [aa.td h3] at hpx; cases hpx
theorem EM (h : aa.Hd) (bf : Nat) (pp : Option Addr) (pl : List Int) (cp : Nat) (pt : Option Addr) (tr : List Int) (ct : Nat) (pd : Option Addr) (nd cd : Nat) (pk : Option Addr) (ck : Nat) (R : ad) (hP : ∀ w0 h, R w0 h → aS U5 pp pl.length pl w0 h) (hT : ∀ w0 h, R w0 h → aS U5 pt tr.length tr w0 h) (hcp : pl.length ≤ cp) (hB : aj.au pl) (hBt : aj.au tr) (hpl : pl.length < 500000000) (htl : tr.length < 500000000) (pv : Option Addr) (cv : Nat) (v : List Int) (Rk Rv : ad) (hRk : ∀ w0 h_, Rk w0 h_ → aS (aP 3 .i64) pk (aa.bD h tr).length (aa.bD h tr) w0 h_) (hRv : ∀ w0 h_, Rv w0 h_ → aS (aP 3 .i64) pv v.length v w0 h_) (hf : aa.gw ⟨h, pl, tr⟩) (hvl : v.length = (aa.parts h.ax).toNat) (hvx : ∀ x ∈ v, 0 ≤ x ∧ x < 2 ^ h.dep.toNat) (hk2 : v.getD 0 0 < 100000000) (c0 c1 c2 c3 : Int) (hpx : aa.jh ⟨h, pl, tr⟩ v = some [c0, c1, c2, c3]) : aG Tryz.prog 151 [.pointer (some ⟨bf, 0, none⟩), .slice pv v.length cv] [ao bf 90 [.int .i64 h.w, .int .i64 h.h, .int .i64 h.dep, .int .i64 h.ax, .bool h.cA, .slice pp pl.length cp, .slice pt tr.length ct, .slice pd nd cd, .slice pk (aa.bD h tr).length ck], Rk, Rv, R] (aQ fun e G => e = .tuple #[.agg #[.int .u16 c0, .int .u16 c1, .int .u16 c2, .int .u16 c3], .bool true] ∧ G = [ao bf 90 [.int .i64 h.w, .int .i64 h.h, .int .i64 h.dep, .int .i64 h.ax, .bool h.cA, .slice pp pl.length cp, .slice pt tr.length ct, .slice pd nd cd, .slice pk (aa.bD h tr).length ck], Rk, Rv, R]) := by
  by_cases h3 : h.ax = 3
  · have hx := hvx (v.getD 0 0) (aa.jk (by have := aa.ij (c := h.ax) (d := h.dep) (by unfold aa.gw at hf; exact hf.1); omega))
    obtain ⟨k, hk⟩ : ∃ k : Nat, v.getD 0 0 = (k : Int) := ⟨(v.getD 0 0).toNat, by omega⟩
    rw [aa.xD h3, hk, show ((k : Int)).toNat = k from rfl] at hpx
    have q : ¬ pl.length / 3 ≤ k := fun q => by rw [aa.Ka q] at hpx; cases hpx
    rw [aa.C1 q] at hpx
    obtain ⟨rfl, rfl, rfl, rfl⟩ := aa.vP hpx
    exact BP h bf pp pl cp pt tr ct pd nd cd pk ck R hP hT hcp hB hBt hpl htl pv cv v Rk Rv hRk hRv hf hvl hvx h3 k hk (by omega) q
  · exact DW h bf pp pl cp pt tr ct pd nd cd pk ck R hP hT hcp hB hBt hpl htl pv cv v Rk Rv hRk hRv hf hvl hvx h3 c0 c1 c2 c3 hpx
end Go.Proofs.YtmaiakpjgomnpaaGreat
namespace Go.Proofs.YtmaiakpjgomnpaaGreat
open Go.Sl 
theorem ba : dU Tryz.prog ⟨[22], []⟩ = true := by kernel_rfl
attribute [local irreducible] aj.au aa.off aa.rI aa.pE aa.gz aa.jw aa.ks aa.gk aa.jO aa.P3 aa.rK
set_option maxHeartbeats 1000000 in
theorem fR (a : Int) (ha : -255 ≤ a ∧ a ≤ 510) (y : Int) (hy : 0 ≤ y ∧ y < 256) : aG Tryz.prog 163 [.int .i64 a, .int .i64 y] [] (aQ fun v G => v = .int .i64 (aa.off a y) ∧ G = []) := by
 refine av [(0, _), (1, _)] Tryz.func163 rfl Tryz.ntmps163 rfl rfl ?_
 intro w0 F
 refine DX ba 13 rfl (by omega) ?_
 refine oV (cK (v := .int .i64 (aa.off a y)) (Ap rfl rfl) (congrArg (Value.int .i64) (aa.JO a y))) ?_
 refine rO ba 4 rfl ?_
 exact ak (aC rfl) ⟨rfl, rfl⟩ (sub .nil aw)
set_option maxHeartbeats 1000000 in
theorem IY (x : Int) (hx : 0 ≤ x ∧ x < 256) (y : Int) (hy : 0 ≤ y ∧ y < 256) (z : Int) (hz : 0 ≤ z ∧ z < 256) : aG Tryz.prog 165 [.int .u8 x, .int .u8 y, .int .u8 z] [] (aQ fun v G => v = .int .u8 (aa.rI x y z) ∧ G = []) := by
 refine av [(0, _), (1, _), (2, _)] Tryz.func165 rfl Tryz.ntmps165 rfl rfl ?_
 intro w0 F
 refine rT ba 8 rfl ?_
 refine oV (bg V.u5 Tryz.underlying3 rfl wI) ?_
 refine oV (aK rfl) ?_
 refine oV (bg V.u5 Tryz.underlying3 rfl wI) ?_
 refine oV (aK rfl) ?_
 refine oV (bg V.u5 Tryz.underlying3 rfl wI) ?_
 refine rO ba 5 rfl ?_
 rcases (aa.PQ x y z) with ⟨q1, q2, hs⟩ | ⟨q1, q2, q3, hs⟩ | ⟨q1, q2, q3, hs⟩ | ⟨q1, q3, hs⟩ | ⟨q1, q3, hs⟩
 ·refine fH ba 16 rfl (by omega) ?_
  refine ai (fR (x + y - z) (by omega) x hx) V.hH  rfl .nil rfl ?_
  rintro _ _ ⟨rfl, rfl⟩
  refine rO ba 2 rfl ?_
  refine ai (fR (x + y - z) (by omega) y hy) V.hH  rfl .nil rfl ?_
  rintro _ _ ⟨rfl, rfl⟩
  refine oV (aW (eH rfl rfl) q1) ?_
  refine rO ba 3 rfl ?_
  refine ag rfl ?_
  refine ai (fR (x + y - z) (by omega) x hx) V.hH  rfl .nil rfl ?_
  rintro _ _ ⟨rfl, rfl⟩
  refine rO ba 2 rfl ?_
  refine ag rfl ?_
  refine ai (fR (x + y - z) (by omega) z hz) V.hH  rfl .nil rfl ?_
  rintro _ _ ⟨rfl, rfl⟩
  refine ag rfl ?_
  refine oV (aW (eH rfl rfl) q2) ?_
  refine rO ba 14 rfl ?_
  exact ak (aC rfl) ⟨congrArg (Value.int .u8) hs.symm, rfl⟩ (sub .nil aw)
 ·refine fH ba 16 rfl (by omega) ?_
  refine ai (fR (x + y - z) (by omega) x hx) V.hH  rfl .nil rfl ?_
  rintro _ _ ⟨rfl, rfl⟩
  refine rO ba 2 rfl ?_
  refine ai (fR (x + y - z) (by omega) y hy) V.hH  rfl .nil rfl ?_
  rintro _ _ ⟨rfl, rfl⟩
  refine oV (aW (eH rfl rfl) q1) ?_
  refine rO ba 3 rfl ?_
  refine ag rfl ?_
  refine ai (fR (x + y - z) (by omega) x hx) V.hH  rfl .nil rfl ?_
  rintro _ _ ⟨rfl, rfl⟩
  refine rO ba 2 rfl ?_
  refine ag rfl ?_
  refine ai (fR (x + y - z) (by omega) z hz) V.hH  rfl .nil rfl ?_
  rintro _ _ ⟨rfl, rfl⟩
  refine ag rfl ?_
  refine oV (aA (eH rfl rfl) q2) ?_
  refine rO ba 9 rfl ?_
  refine ai (fR (x + y - z) (by omega) y hy) V.hH  rfl .nil rfl ?_
  rintro _ _ ⟨rfl, rfl⟩
  refine rO ba 2 rfl ?_
  refine ai (fR (x + y - z) (by omega) z hz) V.hH  rfl .nil rfl ?_
  rintro _ _ ⟨rfl, rfl⟩
  refine oV (aW (eH rfl rfl) q3) ?_
  refine rO ba 13 rfl ?_
  exact ak (aC rfl) ⟨congrArg (Value.int .u8) hs.symm, rfl⟩ (sub .nil aw)
 ·refine fH ba 16 rfl (by omega) ?_
  refine ai (fR (x + y - z) (by omega) x hx) V.hH  rfl .nil rfl ?_
  rintro _ _ ⟨rfl, rfl⟩
  refine rO ba 2 rfl ?_
  refine ai (fR (x + y - z) (by omega) y hy) V.hH  rfl .nil rfl ?_
  rintro _ _ ⟨rfl, rfl⟩
  refine oV (aW (eH rfl rfl) q1) ?_
  refine rO ba 3 rfl ?_
  refine ag rfl ?_
  refine ai (fR (x + y - z) (by omega) x hx) V.hH  rfl .nil rfl ?_
  rintro _ _ ⟨rfl, rfl⟩
  refine rO ba 2 rfl ?_
  refine ag rfl ?_
  refine ai (fR (x + y - z) (by omega) z hz) V.hH  rfl .nil rfl ?_
  rintro _ _ ⟨rfl, rfl⟩
  refine ag rfl ?_
  refine oV (aA (eH rfl rfl) q2) ?_
  refine rO ba 9 rfl ?_
  refine ai (fR (x + y - z) (by omega) y hy) V.hH  rfl .nil rfl ?_
  rintro _ _ ⟨rfl, rfl⟩
  refine rO ba 2 rfl ?_
  refine ai (fR (x + y - z) (by omega) z hz) V.hH  rfl .nil rfl ?_
  rintro _ _ ⟨rfl, rfl⟩
  refine oV (aA (eH rfl rfl) q3) ?_
  refine rO ba 14 rfl ?_
  exact ak (aC rfl) ⟨congrArg (Value.int .u8) hs.symm, rfl⟩ (sub .nil aw)
 ·refine fH ba 16 rfl (by omega) ?_
  refine ai (fR (x + y - z) (by omega) x hx) V.hH  rfl .nil rfl ?_
  rintro _ _ ⟨rfl, rfl⟩
  refine rO ba 2 rfl ?_
  refine ai (fR (x + y - z) (by omega) y hy) V.hH  rfl .nil rfl ?_
  rintro _ _ ⟨rfl, rfl⟩
  refine oV (aA (eH rfl rfl) q1) ?_
  refine rO ba 17 rfl ?_
  refine ai (fR (x + y - z) (by omega) y hy) V.hH  rfl .nil rfl ?_
  rintro _ _ ⟨rfl, rfl⟩
  refine rO ba 2 rfl ?_
  refine ai (fR (x + y - z) (by omega) z hz) V.hH  rfl .nil rfl ?_
  rintro _ _ ⟨rfl, rfl⟩
  refine oV (aW (eH rfl rfl) q3) ?_
  refine rO ba 13 rfl ?_
  exact ak (aC rfl) ⟨congrArg (Value.int .u8) hs.symm, rfl⟩ (sub .nil aw)
 ·refine fH ba 16 rfl (by omega) ?_
  refine ai (fR (x + y - z) (by omega) x hx) V.hH  rfl .nil rfl ?_
  rintro _ _ ⟨rfl, rfl⟩
  refine rO ba 2 rfl ?_
  refine ai (fR (x + y - z) (by omega) y hy) V.hH  rfl .nil rfl ?_
  rintro _ _ ⟨rfl, rfl⟩
  refine oV (aA (eH rfl rfl) q1) ?_
  refine rO ba 17 rfl ?_
  refine ai (fR (x + y - z) (by omega) y hy) V.hH  rfl .nil rfl ?_
  rintro _ _ ⟨rfl, rfl⟩
  refine rO ba 2 rfl ?_
  refine ai (fR (x + y - z) (by omega) z hz) V.hH  rfl .nil rfl ?_
  rintro _ _ ⟨rfl, rfl⟩
  refine oV (aA (eH rfl rfl) q3) ?_
  refine rO ba 14 rfl ?_
  exact ak (aC rfl) ⟨congrArg (Value.int .u8) hs.symm, rfl⟩ (sub .nil aw)
set_option maxHeartbeats 1000000 in
theorem EW (p : Option Addr) (c n : Nat) (L : List Int) (R : ad) (hR : ∀ w0 h, R w0 h → aS U5 p n L w0 h) (hn : L.length = n) (hB : aj.au L) (j : Int) : aG Tryz.prog 164 [.slice p n c, .int .i64 j] [R] (aQ fun v G => v = .int .u8 (aa.rK L j) ∧ G = [R]) := by
 refine av [(0, _), (1, _)] Tryz.func164 rfl Tryz.ntmps164 rfl rfl ?_
 intro w0 F
 refine rT ba 5 rfl ?_
 rcases (aa.P6 L j) with ⟨q1, hs⟩ | ⟨q1, q2, hs⟩ | ⟨q1, q2, hs⟩
 ·refine rC ba 4 rfl ?_
  refine oV (aW (bu rfl rfl) (by omega)) ?_
  refine rO ba 16 rfl ?_
  exact ak (aC rfl) ⟨congrArg (Value.int .u8) hs.symm, rfl⟩ (sub (ar .nil) aw)
 ·refine rC ba 4 rfl ?_
  refine oV (aA (bu rfl rfl) (by omega)) ?_
  refine rO ba 4 rfl ?_
  refine ag rfl ?_
  refine oV (aW (ft rfl rfl) (by omega)) ?_
  refine rO ba 11 rfl ?_
  exact ak (aC rfl) ⟨congrArg (Value.int .u8) hs.symm, rfl⟩ (sub (ar .nil) aw)
 ·refine rC ba 4 rfl ?_
  refine oV (aA (bu rfl rfl) (by omega)) ?_
  refine rO ba 4 rfl ?_
  refine ag rfl ?_
  refine oV (aA (ft rfl rfl) (by omega)) ?_
  refine rO ba 10 rfl ?_
  refine oV (xI V.bY (by exact bE hR an)) ?_
  refine oV (xL V.s5 (by exact bE hR an)) ?_
  refine rO ba 4 rfl ?_
  exact ak (aC rfl) ⟨congrArg (Value.int .u8) hs.symm, rfl⟩ (sub (ar .nil) aw)
set_option maxHeartbeats 1000000 in
theorem M5 (kind : Int) (p1 : Option Addr) (c1 n1 : Nat) (L1 : List Int) (R1 : ad) (hR1 : ∀ w0 h, R1 w0 h → aS U5 p1 n1 L1 w0 h) (hn1 : L1.length = n1) (hB1 : aj.au L1) (p2 : Option Addr) (c2 n2 : Nat) (L2 : List Int) (R2 : ad) (hR2 : ∀ w0 h, R2 w0 h → aS U5 p2 n2 L2 w0 h) (hn2 : L2.length = n2) (hB2 : aj.au L2) (i back : Nat) (hi : i < 500000000) (hbk : back ≤ 8) : aG Tryz.prog 141 [.int .i64 kind, .slice p1 n1 c1, .slice p2 n2 c2, .int .i64 (back : Int), .int .i64 (i : Int)] [R1, R2] (aQ fun v G => v = .int .u8 (aa.pE kind (aa.gz L1 i back) (L2.getD i 0) (aa.gz L2 i back)) ∧ G = [R1, R2]) := by
 refine av [(0, _), (1, _), (2, _), (3, _), (4, _)] Tryz.func141 rfl Tryz.ntmps141 rfl rfl ?_
 intro w0 F
 have ha := aa.Gz hB1 i back
 have hb : 0 ≤ (L2.getD i 0) ∧ (L2.getD i 0) < 256 := hB2.get i
 have hd := aa.Gz hB2 i back
 refine DX ba 11 rfl (by omega) ?_
 refine ai (EW p1 c1 n1 L1 R1 hR1 hn1 hB1 ((i : Int) - (back : Int))) V.EA  rfl (ar .nil) rfl ?_
 rintro _ _ ⟨rfl, rfl⟩
 rw [aa.Dd]
 refine rO ba 2 rfl ?_
 refine ai (EW p2 c2 n2 L2 R2 hR2 hn2 hB2 (i : Int)) V.EA  rfl (.cons ay .nil) rfl ?_
 rintro _ _ ⟨rfl, rfl⟩
 rw [aa.Jd]
 refine cQ ba 4 rfl (by omega) ?_
 refine ai (EW p2 c2 n2 L2 R2 hR2 hn2 hB2 ((i : Int) - (back : Int))) V.EA  rfl (ar .nil) rfl ?_
 rintro _ _ ⟨rfl, rfl⟩
 rw [aa.Dd]
 refine rO ba 5 rfl ?_
 rcases (aa.QM kind (aa.gz L1 i back) (L2.getD i 0) (aa.gz L2 i back)) with ⟨q1, hs⟩ | ⟨q1, q2, hs⟩ | ⟨q1, q2, q3, hs⟩ | ⟨q1, q2, q3, q4, hs⟩ | ⟨q1, q2, q3, q4, hs⟩
 ·refine rC ba 9 rfl ?_
  refine oV (aW (az rfl rfl) (by omega)) ?_
  refine rO ba 13 rfl ?_
  exact ak (aC rfl) ⟨congrArg (Value.int .u8) hs.symm, rfl⟩ (sub (.cons ay (ar .nil)) aw)
 ·refine rC ba 9 rfl ?_
  refine oV (aA (az rfl rfl) (by omega)) ?_
  refine rO ba 6 rfl ?_
  refine oV (aW (az rfl rfl) (by omega)) ?_
  refine rO ba 13 rfl ?_
  exact ak (aC rfl) ⟨congrArg (Value.int .u8) hs.symm, rfl⟩ (sub (.cons ay (ar .nil)) aw)
 ·refine rC ba 9 rfl ?_
  refine oV (aA (az rfl rfl) (by omega)) ?_
  refine rO ba 6 rfl ?_
  refine oV (aA (az rfl rfl) (by omega)) ?_
  refine rO ba 6 rfl ?_
  refine oV (aW (az rfl rfl) (by omega)) ?_
  refine rO ba 7 rfl ?_
  refine oV (bg V.u5 Tryz.underlying3 rfl wI) ?_
  refine oV (aK rfl) ?_
  refine oV (bg V.u5 Tryz.underlying3 rfl wI) ?_
  refine cQ ba 1 rfl (by omega) ?_
  refine oV (fY (r := ((aa.gz L1 i back) + (L2.getD i 0)) / 2) rfl rfl (by omega) (jL (by omega) (by omega) (by omega))) ?_
  refine oV (bg V.u3 Tryz.underlying5 rfl (kc (by omega) (by omega))) ?_
  refine rO ba 6 rfl ?_
  exact ak (aC rfl) ⟨congrArg (Value.int .u8) hs.symm, rfl⟩ (sub (.cons ay (ar .nil)) aw)
 ·refine rC ba 9 rfl ?_
  refine oV (aA (az rfl rfl) (by omega)) ?_
  refine rO ba 6 rfl ?_
  refine oV (aA (az rfl rfl) (by omega)) ?_
  refine rO ba 6 rfl ?_
  refine oV (aA (az rfl rfl) (by omega)) ?_
  refine rO ba 6 rfl ?_
  refine oV (aW (az rfl rfl) (by omega)) ?_
  refine rO ba 9 rfl ?_
  refine ai (IY (aa.gz L1 i back) ha (L2.getD i 0) hb (aa.gz L2 i back) hd) V.PY  rfl .nil rfl ?_
  rintro _ _ ⟨rfl, rfl⟩
  refine rO ba 6 rfl ?_
  exact ak (aC rfl) ⟨congrArg (Value.int .u8) hs.symm, rfl⟩ (sub (.cons ay (ar .nil)) aw)
 ·refine rC ba 9 rfl ?_
  refine oV (aA (az rfl rfl) (by omega)) ?_
  refine rO ba 6 rfl ?_
  refine oV (aA (az rfl rfl) (by omega)) ?_
  refine rO ba 6 rfl ?_
  refine oV (aA (az rfl rfl) (by omega)) ?_
  refine rO ba 6 rfl ?_
  refine oV (aA (az rfl rfl) (by omega)) ?_
  refine rO ba 13 rfl ?_
  exact ak (aC rfl) ⟨congrArg (Value.int .u8) hs.symm, rfl⟩ (sub (.cons ay (ar .nil)) aw)
set_option maxHeartbeats 1000000 in
theorem Gi (kind : Int) (p1 : Option Addr) (c1 n1 : Nat) (L1 : List Int) (R1 : ad) (hR1 : ∀ w0 h, R1 w0 h → aS U5 p1 n1 L1 w0 h) (hn1 : L1.length = n1) (hB1 : aj.au L1) (p2 : Option Addr) (c2 n2 : Nat) (L2 : List Int) (R2 : ad) (hR2 : ∀ w0 h, R2 w0 h → aS U5 p2 n2 L2 w0 h) (hn2 : L2.length = n2) (hB2 : aj.au L2) (back : Nat) (hbk : 1 ≤ back ∧ back ≤ 8) (h2 : n2 = 0 ∨ n2 = n1) (hk : 0 ≤ kind) (hn1s : n1 < 500000000) (t : Bool) (ht : t = decide (kind < 5)) : aG Tryz.prog 140 [.int .i64 kind, .slice p1 n1 c1, .slice p2 n2 c2, .int .i64 (back : Int)] [R1, R2] (aQ fun v G => v = .bool t ∧ G = [R1, R2]) := by
 refine av [(0, _), (1, _), (2, _), (3, _)] Tryz.func140 rfl Tryz.ntmps140 rfl rfl ?_
 intro w0 F
 refine rT ba 5 rfl ?_
 rcases ((by by_cases h : kind < 5; exact (Nat.eq_zero_or_pos n2).elim (fun q => .inr (.inl ⟨h, q⟩)) (fun q => .inr (.inr ⟨h, q⟩)); exact .inl h : ¬ kind < 5 ∨ (kind < 5 ∧ n2 = 0) ∨ (kind < 5 ∧ 0 < n2))) with hq | ⟨hq, hz⟩ | ⟨hq, hz⟩
 ·refine rC ba 3 rfl ?_
  refine oV (aW (ft rfl rfl) (by omega)) ?_
  refine rO ba 2 rfl ?_
  refine ag rfl ?_
  refine oV (aA (bu rfl rfl) hq) ?_
  refine rO ba 25 rfl ?_
  (obtain rfl : t = false := ht.trans (decide_eq_false hq); exact ak (G := [R1, R2]) (aC rfl) ⟨rfl, rfl⟩ (sub (bF .nil) aw))
 ·refine rC ba 3 rfl ?_
  refine oV (aW (ft rfl rfl) (by omega)) ?_
  refine rO ba 2 rfl ?_
  refine ag rfl ?_
  refine oV (aW (bu rfl rfl) hq) ?_
  refine rO ba 3 rfl ?_
  refine ag rfl ?_
  refine oV (aW (ft rfl rfl) (by omega)) ?_
  refine rO ba 3 rfl ?_
  refine ag rfl ?_
  refine oV (aW (eH rfl rfl) (by omega)) ?_
  refine rO ba 4 rfl ?_
  refine ag rfl ?_
  refine oV (aW (az rfl rfl) (by omega)) ?_
  refine rO ba 12 rfl ?_
  (obtain rfl : t = true := ht.trans (decide_eq_true hq); exact ak (G := [R1, R2]) (aC rfl) ⟨rfl, rfl⟩ (sub (bF .nil) aw))
 ·refine rC ba 3 rfl ?_
  refine oV (aW (ft rfl rfl) (by omega)) ?_
  refine rO ba 2 rfl ?_
  refine ag rfl ?_
  refine oV (aW (bu rfl rfl) hq) ?_
  refine rO ba 3 rfl ?_
  refine ag rfl ?_
  refine oV (aW (ft rfl rfl) (by omega)) ?_
  refine rO ba 3 rfl ?_
  refine ag rfl ?_
  refine oV (aW (eH rfl rfl) (by omega)) ?_
  refine rO ba 4 rfl ?_
  refine ag rfl ?_
  refine oV (aA (az rfl rfl) (by omega)) ?_
  refine rO ba 5 rfl ?_
  refine ag rfl ?_
  refine oV (aW (az rfl rfl) (by omega)) ?_
  refine rO ba 6 rfl ?_
  (obtain rfl : t = true := ht.trans (decide_eq_true hq); exact ak (G := [R1, R2]) (aC rfl) ⟨rfl, rfl⟩ (sub (bF .nil) aw))
set_option maxHeartbeats 2000000 in
theorem DH (kind : Int) (p1 : Option Addr) (c1 n1 : Nat) (L1 : List Int) (R1 : ad) (hR1 : ∀ w0 h, R1 w0 h → aS U5 p1 n1 L1 w0 h) (hn1 : L1.length = n1) (hB1 : aj.au L1) (p2 : Option Addr) (c2 n2 : Nat) (L2 : List Int) (R2 : ad) (hR2 : ∀ w0 h, R2 w0 h → aS U5 p2 n2 L2 w0 h) (hn2 : L2.length = n2) (hB2 : aj.au L2) (back : Nat) (hbk : 1 ≤ back ∧ back ≤ 8) (h2 : n2 = 0 ∨ n2 = n1) (hk : 0 ≤ kind) (hn1s : n1 < 500000000) : aG Tryz.prog 120 [.int .i64 kind, .slice p1 n1 c1, .slice p2 n2 c2, .int .i64 (back : Int)] [R1, R2] (aQ fun v G => (4 < kind ∧ v = .tuple #[.slice none 0 0, .bool false] ∧ G = [R1, R2]) ∨ (¬ 4 < kind ∧ ∃ q cq, v = .tuple #[.slice q n1 cq, .bool true] ∧ G = [Row U5 q n1 cq (aa.gk kind L1 L2 back), R1, R2])) := by
 refine av [(0, _), (1, _), (2, _), (3, _)] Tryz.func120 rfl Tryz.ntmps120 rfl rfl ?_
 intro w0 F
 refine rT ba 6 rfl ?_
 rcases (Int.lt_or_le 4 kind) with hq | hq
 ·refine rC ba 7 rfl ?_
  refine ai (Gi kind p1 c1 n1 L1 R1 hR1 hn1 hB1 p2 c2 n2 L2 R2 hR2 hn2 hB2 back hbk h2 hk hn1s false (decide_eq_false (by omega)).symm) V.Na  rfl (bF .nil) rfl ?_
  rintro _ _ ⟨rfl, rfl⟩
  refine rO ba 12 rfl ?_
  exact ak (fD rfl rfl) (.inl ⟨hq, rfl, rfl⟩) (sub (bF .nil) aw)
 ·refine rC ba 7 rfl ?_
  refine ai (Gi kind p1 c1 n1 L1 R1 hR1 hn1 hB1 p2 c2 n2 L2 R2 hR2 hn2 hB2 back hbk h2 hk hn1s true (decide_eq_true (by omega)).symm) V.Na  rfl (bF .nil) rfl ?_
  rintro _ _ ⟨rfl, rfl⟩
  refine rO ba 10 rfl ?_
  refine om n1 n1 (U5) rfl rfl V.bY V.z5 rfl rfl rfl rfl (by omega) (by omega) rfl rfl ?_
  intro mn
  refine rO ba 12 rfl ?_
  rw [show List.replicate n1 U5.d = aa.jO kind L1 L2 back 0 from by rw [aa.MA, hn1]]
  refine eb (fun (i : Nat) => [(0, .int .i64 kind), (2, .slice p2 n2 c2), (3, .int .i64 (back : Int)), (10, .slice (some ⟨mn, 0, none⟩) n1 n1), (22, .slice p1 n1 c1), (23, .int .i64 (n1 : Int)), (24, .int .i64 (i : Int))]) (fun (i : Nat) => Row U5 (some ⟨mn, 0, none⟩) n1 n1 (aa.jO kind L1 L2 back i) :: R1 :: R2 :: F) (fun (i : Nat) => i ≤ n1) (fun (i : Nat) => n1 - i) (i1 (0) ?_ (kG (dp ln)) (sub (gm .nil) aw)) ?_
  ·exact Nat.zero_le _
  intro i
  rintro hi
  refine rL ba 6 rfl ?_
  refine aN rfl (fun h25 => ?_) (fun h25 => ?_)
  ·refine rC ba 7 rfl ?_
   refine oV (xI V.bY (by exact bE hR1 bW)) ?_
   refine oV (xL V.s5 (by exact bE hR1 bW)) ?_
   refine rO ba 13 rfl ?_
   refine ai (M5 kind (some ⟨mn, 0, none⟩) n1 n1 (aa.jO kind L1 L2 back i) (Row U5 (some ⟨mn, 0, none⟩) n1 n1 (aa.jO kind L1 L2 back i)) (fun _ _ hh => hh.rd) (by rw [aa.Ef (by omega)]; exact hn1) aa.Fu p2 c2 n2 L2 R2 hR2 hn2 hB2 i back (by omega) hbk.2) V.P9  rfl (ar (.cons ay .nil)) rfl ?_
   rintro _ _ ⟨rfl, rfl⟩
   rw [aa.Ij (by omega)]
   refine oV (du (r := (aa.ks kind L1 L2 back (aa.jw kind L1 L2 back i) i)) rfl rfl ((aa.ee _).trans (aa.HO rfl rfl))) ?_
   refine oV (xI V.bY (own an)) ?_
   refine aU (gu (c := (U5)) (_) V.s5 rfl rfl rfl (by exact cY) (by omega) (by omega) rfl rfl) ?_
   refine cQ ba 7 rfl (by omega) ?_
   rw [show List.set (aa.jO kind L1 L2 back i) ((i : Int)).toNat (aa.ks kind L1 L2 back (aa.jw kind L1 L2 back i) i) = aa.jO kind L1 L2 back (i + 1) from aa.FV (by omega)]
   exact j1 (i + 1) ⟨by omega, by omega⟩ (kG (dp ln)) (sub (ar (.cons ay (.cons dQ .nil))) aw)
  ·refine rC ba 6 rfl ?_
   obtain rfl : i = n1 := by omega
   rw [show aa.jO kind L1 L2 back i = aa.gk kind L1 L2 back from hn1 ▸ aa.EB kind L1 L2 back]
   refine rC ba 7 rfl ?_
   exact ak (fD rfl rfl) (.inr ⟨by omega, _, _, rfl, rfl⟩) (sub (gm .nil) aw)
end Go.Proofs.YtmaiakpjgomnpaaGreat
namespace Go.Proofs.YtmaiakpjgomnpaaGreat
open Go.Sl
theorem V.EC : aH Tryz.prog 120 = true := by kernel_rfl
theorem V.MZ : aH Tryz.prog 121 = true := by kernel_rfl
theorem V.JQ : aH Tryz.prog 151 = true := by kernel_rfl
theorem V.PV : aH Tryz.prog 152 = true := by kernel_rfl
theorem V.KY : cy Tryz.prog 145 0 = some 0 := by kernel_rfl
theorem V.Rn : cy Tryz.prog 145 1 = some 1 := by kernel_rfl
theorem V.Ra : cy Tryz.prog 145 2 = some 2 := by kernel_rfl
theorem V.RL : cy Tryz.prog 145 3 = some 3 := by kernel_rfl
end Go.Proofs.YtmaiakpjgomnpaaGreat
namespace Go.Proofs.YtmaiakpjgomnpaaGreat
open Go.Sl 
theorem dh : dU Tryz.prog ⟨[47], [(35, 2, 2), (35, 3, 3), (90, 0, 0), (145, 0, 0), (145, 1, 1), (145, 2, 2), (145, 3, 3), (145, 4, 4), (145, 5, 5)]⟩ = true := by kernel_rfl
attribute [local irreducible] aj.au aa.bR aa.up aa.cZ aa.gZ aa.Dh aa.deep aa.parts HW aa.bD aa.jh aa.fE aa.qD aa.ky aa.gw aa.gO aa.fh aa.l8 aa.kZ aa.gk aa.fk
theorem KJ (h : aa.Hd) (bf : Nat) (pp : Option Addr) (pl : List Int) (cp : Nat) (pt : Option Addr) (tr : List Int) (ct : Nat) (pd : Option Addr) (nd cd : Nat) (pk : Option Addr) (ck : Nat) (R : ad) (hP : ∀ w0 h, R w0 h → aS U5 pp pl.length pl w0 h) (hT : ∀ w0 h, R w0 h → aS U5 pt tr.length tr w0 h) (hcp : pl.length ≤ cp) (hB : aj.au pl) (hBt : aj.au tr) (hpl : pl.length < 500000000) (htl : tr.length < 500000000) (pv : Option Addr) (cv : Nat) (v : List Int) (Rk Rv : ad) (hRk : ∀ w0 h_, Rk w0 h_ → aS (aP 3 .i64) pk (aa.bD h tr).length (aa.bD h tr) w0 h_) (hRv : ∀ w0 h_, Rv w0 h_ → aS (aP 3 .i64) pv v.length v w0 h_) (hf : aa.gw ⟨h, pl, tr⟩) (hvl : v.length = (aa.parts h.ax).toNat) (hvx : ∀ x ∈ v, 0 ≤ x ∧ x < 2 ^ h.dep.toNat) (nv : Nat) (hnv : v.length = nv) (hk2 : v.getD 0 0 < 100000000) (hpx : aa.jh ⟨h, pl, tr⟩ v = none) : aG Tryz.prog 151 [.pointer (some ⟨bf, 0, none⟩), .slice pv nv cv] [ao bf 90 [.int .i64 h.w, .int .i64 h.h, .int .i64 h.dep, .int .i64 h.ax, .bool h.cA, .slice pp pl.length cp, .slice pt tr.length ct, .slice pd nd cd, .slice pk (aa.bD h tr).length ck], Rk, Rv, R] (aQ fun e G => e = .tuple #[.agg #[.int .u16 0, .int .u16 0, .int .u16 0, .int .u16 0], .bool false] ∧ G = [ao bf 90 [.int .i64 h.w, .int .i64 h.h, .int .i64 h.dep, .int .i64 h.ax, .bool h.cA, .slice pp pl.length cp, .slice pt tr.length ct, .slice pd nd cd, .slice pk (aa.bD h tr).length ck], Rk, Rv, R]) := by
 subst hnv
 exact EZ h bf pp pl cp pt tr ct pd nd cd pk ck R hP hT hcp hB hBt hpl htl pv cv v Rk Rv hRk hRv hf hvl hvx hk2 hpx
theorem MC (h : aa.Hd) (bf : Nat) (pp : Option Addr) (pl : List Int) (cp : Nat) (pt : Option Addr) (tr : List Int) (ct : Nat) (pd : Option Addr) (nd cd : Nat) (pk : Option Addr) (ck : Nat) (R : ad) (hP : ∀ w0 h, R w0 h → aS U5 pp pl.length pl w0 h) (hT : ∀ w0 h, R w0 h → aS U5 pt tr.length tr w0 h) (hcp : pl.length ≤ cp) (hB : aj.au pl) (hBt : aj.au tr) (hpl : pl.length < 500000000) (htl : tr.length < 500000000) (pv : Option Addr) (cv : Nat) (v : List Int) (Rk Rv : ad) (hRk : ∀ w0 h_, Rk w0 h_ → aS (aP 3 .i64) pk (aa.bD h tr).length (aa.bD h tr) w0 h_) (hRv : ∀ w0 h_, Rv w0 h_ → aS (aP 3 .i64) pv v.length v w0 h_) (hf : aa.gw ⟨h, pl, tr⟩) (hvl : v.length = (aa.parts h.ax).toNat) (hvx : ∀ x ∈ v, 0 ≤ x ∧ x < 2 ^ h.dep.toNat) (nv : Nat) (hnv : v.length = nv) (hk2 : v.getD 0 0 < 100000000) (c0 c1 c2 c3 : Int) (hpx : aa.jh ⟨h, pl, tr⟩ v = some [c0, c1, c2, c3]) : aG Tryz.prog 151 [.pointer (some ⟨bf, 0, none⟩), .slice pv nv cv] [ao bf 90 [.int .i64 h.w, .int .i64 h.h, .int .i64 h.dep, .int .i64 h.ax, .bool h.cA, .slice pp pl.length cp, .slice pt tr.length ct, .slice pd nd cd, .slice pk (aa.bD h tr).length ck], Rk, Rv, R] (aQ fun e G => e = .tuple #[.agg #[.int .u16 c0, .int .u16 c1, .int .u16 c2, .int .u16 c3], .bool true] ∧ G = [ao bf 90 [.int .i64 h.w, .int .i64 h.h, .int .i64 h.dep, .int .i64 h.ax, .bool h.cA, .slice pp pl.length cp, .slice pt tr.length ct, .slice pd nd cd, .slice pk (aa.bD h tr).length ck], Rk, Rv, R]) := by
 subst hnv
 exact EM h bf pp pl cp pt tr ct pd nd cd pk ck R hP hT hcp hB hBt hpl htl pv cv v Rk Rv hRk hRv hf hvl hvx hk2 c0 c1 c2 c3 hpx
theorem F5 {h : aa.Hd} {row : List Int} {i : Nat} (hd : aa.jH h.dep) (hp : 1 ≤ aa.parts h.ax) : (aa.fE h row i).getD 0 0 < 100000000 := by
 have h1 := aa.uq (h := h) (row := row) (x := i) _ (aa.jk (l := aa.fE h row i) (i := 0) (by rw [aa.lR]; omega))
 have := aa.mP hd
 omega
set_option maxHeartbeats 8000000 in
theorem G5 (h : aa.Hd) (bf : Nat) (pp : Option Addr) (pl : List Int) (cp : Nat) (pt : Option Addr) (tr : List Int) (ct : Nat) (pd : Option Addr) (nd cd : Nat) (pk : Option Addr) (ck : Nat) (R : ad) (hP : ∀ w0 h, R w0 h → aS U5 pp pl.length pl w0 h) (hT : ∀ w0 h, R w0 h → aS U5 pt tr.length tr w0 h) (hcp : pl.length ≤ cp) (hB : aj.au pl) (hBt : aj.au tr) (hpl : pl.length < 500000000) (htl : tr.length < 500000000) (Rk : ad) (hRk : ∀ w0 h_, Rk w0 h_ → aS (aP 3 .i64) pk (aa.bD h tr).length (aa.bD h tr) w0 h_) (hf : aa.gw ⟨h, pl, tr⟩) (hs : aa.bR h.w h.h = 0) (q : Option Addr) (n c : Nat) (hn : (n : Int) = 4 * h.w * h.h) (hcap : n ≤ c) (c5 : List Int) (hpx0 : c5.length = n) (p : aa.Ps) (hp : aa.kZ p h.w h.h) (yy : Nat) (hyy : (yy : Int) < p.h) (pb : Option Addr) (cb : Nat) (row : List Int) (hrl : row.length < 500000000) (hBr : aj.au row) (Rb : ad) (hRb : ∀ w0 h, Rb w0 h → aS U5 pb row.length row w0 h) (hbits : ∀ i : Nat, (i : Int) < p.w → i * (aa.parts h.ax).toNat * h.dep.toNat + (aa.parts h.ax).toNat * h.dep.toNat ≤ 8 * row.length) : aG Tryz.prog 121 [.pointer (some ⟨bf, 0, none⟩), .agg #[.int .i64 h.w, .int .i64 h.h, .slice q n c], .agg #[.int .i64 p.x, .int .i64 p.y, .int .i64 p.dx, .int .i64 p.dy, .int .i64 p.w, .int .i64 p.h], .int .i64 (yy : Int), .slice pb row.length cb] [ao bf 90 [.int .i64 h.w, .int .i64 h.h, .int .i64 h.dep, .int .i64 h.ax, .bool h.cA, .slice pp pl.length cp, .slice pt tr.length ct, .slice pd nd cd, .slice pk (aa.bD h tr).length ck], Row (aP 62 .u16) q n c c5, Rk, Rb, R] (aQ fun v G => (aa.gO ⟨h, pl, tr⟩ p (yy : Int) row p.w.toNat 0 c5 = none ∧ v = .bool false ∧ ∃ P, P.length = n ∧ G = [ao bf 90 [.int .i64 h.w, .int .i64 h.h, .int .i64 h.dep, .int .i64 h.ax, .bool h.cA, .slice pp pl.length cp, .slice pt tr.length ct, .slice pd nd cd, .slice pk (aa.bD h tr).length ck], Row (aP 62 .u16) q n c P, Rk, Rb, R]) ∨ ∃ P, aa.gO ⟨h, pl, tr⟩ p (yy : Int) row p.w.toNat 0 c5 = some P ∧ P.length = n ∧ v = .bool true ∧ G = [ao bf 90 [.int .i64 h.w, .int .i64 h.h, .int .i64 h.dep, .int .i64 h.ax, .bool h.cA, .slice pp pl.length cp, .slice pt tr.length ct, .slice pd nd cd, .slice pk (aa.bD h tr).length ck], Row (aP 62 .u16) q n c P, Rk, Rb, R]) := by
 refine av [(0, _), (1, _), (2, _), (3, _), (4, _)] Tryz.func121 rfl Tryz.ntmps121 rfl rfl ?_
 intro w0 F
 have hde : aa.deep h.ax h.dep := by unfold aa.gw at hf; exact hf.1
 have hpc := aa.ij hde
 have hdi := aa.jR (aa.iD hde)
 obtain ⟨N, hN⟩ : ∃ N, N = (aa.parts h.ax).toNat := ⟨_, rfl⟩
 obtain ⟨D, hD⟩ : ∃ D, D = h.dep.toNat := ⟨_, rfl⟩
 have hN2 : aa.parts h.ax = (N : Int) := by omega
 have hD2 : h.dep = (D : Int) := by omega
 have hpo := hp
 unfold aa.kZ aa.j6 at hpo
 obtain ⟨⟨hx0, hx1, hy0, hy1, hdx, hdy, hw0, hw1, hh0, hh1⟩, hix, hiy⟩ := hpo
 have hsd := aa.ke hs
 obtain ⟨RES, hRES⟩ : ∃ r, r = aa.gO ⟨h, pl, tr⟩ p (yy : Int) row p.w.toNat 0 c5 := ⟨_, rfl⟩
 rw [← hRES]
 refine rT dh 2 rfl ?_
 refine eN rfl (cs := [_, _, _]) rfl rfl ?_
 intro b6
 refine eN rfl (cs := [_, _, _, _, _, _]) rfl rfl ?_
 intro b7
 refine rO dh 6 rfl ?_
 refine ai (w4 pb cb row Rb hRb hrl) V.JS  rfl (.cons kb .nil) rfl ?_
 rintro _ _ ⟨bx, rfl, rfl⟩
 refine rO dh 9 rfl ?_
 refine oV (ae V.s3 rfl jF rfl) ?_
 refine ai (iT h.ax) V.pH  rfl .nil rfl ?_
 rintro _ _ ⟨rfl, rfl⟩
 rw [hN2]
 refine om N N (I3) rfl rfl V.cT V.z3 rfl rfl rfl rfl (by omega) (by omega) rfl rfl ?_
 intro b25
 refine rO dh 7 rfl ?_
 refine oV (ae V.s3 rfl eG rfl) ?_
 refine rO dh 4 rfl ?_
 rw [show HW bx row 0 [] 0 = HW bx row (0 * N * D) [] 0 from by rw [Nat.zero_mul, Nat.zero_mul]]
 rw [show List.replicate N (aP 3 .i64).d = List.replicate N 0 from rfl]
 refine iR (fun (i : Nat) (Vo : List Int) (P : List Int) => [(0, .pointer (some ⟨bf, 0, none⟩)), (3, .int .i64 (yy : Int)), (6, .pointer (some ⟨b6, 0, none⟩)), (7, .pointer (some ⟨b7, 0, none⟩)), (11, .pointer (some ⟨bx, 0, none⟩)), (12, .slice (some ⟨b25, 0, none⟩) N N), (27, .int .i64 p.w), (28, .int .i64 (i : Int))]) (fun (i : Nat) (Vo : List Int) (P : List Int) => HW bx row (i * N * D) [] 0 :: Row (aP 3 .i64) (some ⟨b25, 0, none⟩) N N Vo :: ao b6 26 [.int .i64 h.w, .int .i64 h.h, .slice q n c] :: ao b7 145 [.int .i64 p.x, .int .i64 p.y, .int .i64 p.dx, .int .i64 p.dy, .int .i64 p.w, .int .i64 p.h] :: ao bf 90 [.int .i64 h.w, .int .i64 h.h, .int .i64 h.dep, .int .i64 h.ax, .bool h.cA, .slice pp pl.length cp, .slice pt tr.length ct, .slice pd nd cd, .slice pk (aa.bD h tr).length ck] :: Row (aP 62 .u16) q n c P :: Rk :: Rb :: R :: F) (fun (i : Nat) (Vo : List Int) (P : List Int) => (i : Int) ≤ p.w ∧ Vo.length = N ∧ P.length = n ∧ aa.gO ⟨h, pl, tr⟩ p (yy : Int) row (p.w.toNat - i) i P = RES) (fun (i : Nat) (Vo : List Int) (P : List Int) => p.w.toNat - i) (i3 (0) (List.replicate N 0) (c5) ?_ (js (dp ln)) (sub (.cons ay (ar (.cons bX (.cons ay (.cons ay (.cons ay (.cons ay (.cons dQ (.cons dQ .nil))))))))) aw)) ?_
 ·exact ⟨by omega, List.length_replicate, hpx0, hRES.symm⟩
 intro i Vo P
 rintro ⟨hi, hVl, hPl, hres⟩
 have hSl : (aa.fE h row i).length = N := by rw [aa.lR, hN]
 refine rL dh 6 rfl ?_
 refine aN rfl (fun h29 => ?_) (fun h29 => ?_)
 ·refine rC dh 19 rfl ?_
  rw [show HW bx row (i * N * D) [] 0 = HW bx row (i * N * D + 0 * D) [] 0 from by rw [Nat.zero_mul, Nat.add_zero], show Row (aP 3 .i64) (some ⟨b25, 0, none⟩) N N Vo = Row (aP 3 .i64) (some ⟨b25, 0, none⟩) N N (aa.vN (aa.fE h row i) Vo 0) from by rw [aa.QD]]
  refine eb (fun (k : Nat) => [(0, .pointer (some ⟨bf, 0, none⟩)), (3, .int .i64 (yy : Int)), (6, .pointer (some ⟨b6, 0, none⟩)), (7, .pointer (some ⟨b7, 0, none⟩)), (11, .pointer (some ⟨bx, 0, none⟩)), (12, .slice (some ⟨b25, 0, none⟩) N N), (13, .int .i64 (i : Int)), (27, .int .i64 p.w), (28, .int .i64 (i : Int)), (32, .int .i64 (N : Int)), (33, .int .i64 (k : Int))]) (fun (k : Nat) => HW bx row (i * N * D + k * D) [] 0 :: Row (aP 3 .i64) (some ⟨b25, 0, none⟩) N N (aa.vN (aa.fE h row i) Vo k) :: ao b6 26 [.int .i64 h.w, .int .i64 h.h, .slice q n c] :: ao b7 145 [.int .i64 p.x, .int .i64 p.y, .int .i64 p.dx, .int .i64 p.dy, .int .i64 p.w, .int .i64 p.h] :: ao bf 90 [.int .i64 h.w, .int .i64 h.h, .int .i64 h.dep, .int .i64 h.ax, .bool h.cA, .slice pp pl.length cp, .slice pt tr.length ct, .slice pd nd cd, .slice pk (aa.bD h tr).length ck] :: Row (aP 62 .u16) q n c P :: Rk :: Rb :: R :: F) (fun (k : Nat) => k ≤ N) (fun (k : Nat) => N - k) (i1 (0) ?_ (kQ (dp (dp ln))) (sub (nH (pF .nil)) aw)) ?_
  ·exact Nat.zero_le _
  intro k
  rintro hk
  refine rL dh 6 rfl ?_
  refine aN rfl (fun h34 => ?_) (fun h34 => ?_)
  ·refine rC dh 10 rfl ?_
   have hkD : k * D + D ≤ N * D := by have := Nat.mul_le_mul_right D (show k + 1 ≤ N by omega); rwa [Nat.add_mul, Nat.one_mul] at this
   have hbi : i * N * D + N * D ≤ 8 * row.length := by rw [hN, hD]; exact hbits i (by omega)
   have hvl := aa.Mb (S := (aa.fE h row i)) (old := Vo) (k := k) (by omega) (by omega)
   refine rC dh 8 rfl ?_
   refine oV (cK (v := .int .i64 (D : Int)) (ae V.s3 rfl jF rfl) (congrArg (Value.int .i64) hD2)) ?_
   refine ai (kD bx row (i * N * D + k * D) [] 0 D hrl hBr (by omega) (by omega)) V.tp  rfl (ar .nil) rfl ?_
   rintro _ _ ⟨rfl, rfl⟩
   refine oV (xI V.cT (own bW)) ?_
   refine aU (gu (c := (I3)) (_) V.s3 rfl rfl rfl (by exact mh) (by omega) (by omega) rfl rfl) ?_
   refine cQ dh 7 rfl (by omega) ?_
   rw [aa.QJ hN hD hVl (by omega), show i * N * D + k * D + D = i * N * D + (k + 1) * D from by rw [Nat.add_mul, Nat.one_mul, Nat.add_assoc]]
   exact j1 (k + 1) ⟨by omega, by omega⟩ (kQ (dp (dp ln))) (sub (nH (pF .nil)) aw)
  ·refine rC dh 5 rfl ?_
   rcases (aa.IQ ⟨h, pl, tr⟩ (aa.fE h row i)) with hpx | ⟨c0, c1, c2, c3, hpx⟩
   ·refine rC dh 1 rfl ?_
    obtain rfl : N = k := by omega
    rw [show aa.vN (aa.fE h row i) Vo N = (aa.fE h row i) from hSl ▸ aa.MG (by omega)]
    refine rC dh 3 rfl ?_
    refine ai (KJ h bf pp pl cp pt tr ct pd nd cd pk ck R hP hT hcp hB hBt hpl htl (some ⟨b25, 0, none⟩) N (aa.fE h row i) Rk (Row (aP 3 .i64) (some ⟨b25, 0, none⟩) N N (aa.fE h row i)) hRk (fun _ _ hh => by rw [hSl]; exact hh.rd) hf (aa.lR h row i) aa.uq N hSl (F5 (aa.iD hde) (by omega)) hpx) V.JQ  rfl (.cons ig (.cons kb (.cons ay (.cons kb .nil)))) rfl ?_
    rintro _ _ ⟨rfl, rfl⟩
    refine rO dh 3 rfl ?_
    refine cC V.pG rfl ?_
    intro b15
    refine aU (aF V.mm rfl rfl (us := [_, _, _, _]) rfl rfl (by exact cY) (by exact Nat.le_of_ble_eq_true rfl) rfl) ?_
    refine rO dh 23 rfl ?_
    exact ak (aC rfl) (.inl ⟨aa.JV (f := ⟨h, pl, tr⟩) (by omega) hpx hres, rfl, P, hPl, rfl⟩) (sub (.cons ay (.cons Dx (.cons ay (.cons oo (.cons bX .nil))))) Hb)
   ·refine rC dh 1 rfl ?_
    obtain rfl : N = k := by omega
    rw [show aa.vN (aa.fE h row i) Vo N = (aa.fE h row i) from hSl ▸ aa.MG (by omega)]
    refine rC dh 3 rfl ?_
    refine ai (MC h bf pp pl cp pt tr ct pd nd cd pk ck R hP hT hcp hB hBt hpl htl (some ⟨b25, 0, none⟩) N (aa.fE h row i) Rk (Row (aP 3 .i64) (some ⟨b25, 0, none⟩) N N (aa.fE h row i)) hRk (fun _ _ hh => by rw [hSl]; exact hh.rd) hf (aa.lR h row i) aa.uq N hSl (F5 (aa.iD hde) (by omega)) c0 c1 c2 c3 hpx) V.JQ  rfl (.cons ig (.cons kb (.cons ay (.cons kb .nil)))) rfl ?_
    rintro _ _ ⟨rfl, rfl⟩
    refine rO dh 3 rfl ?_
    refine cC V.pG rfl ?_
    intro b15
    refine aU (aF V.mm rfl rfl (us := [_, _, _, _]) rfl rfl (by exact cY) (by exact Nat.le_of_ble_eq_true rfl) rfl) ?_
    refine rO dh 13 rfl ?_
    have hnn : 0 ≤ (i : Int) * p.dx := Int.mul_nonneg (by omega) (by omega)
    have hnm : 0 ≤ (yy : Int) * p.dy := Int.mul_nonneg (by omega) (by omega)
    have hxx := hix i (by omega) (by omega)
    have hyv := hiy yy (by omega) (by omega)
    have hpi := aa.wx (w := h.w) (h := h.h) (x := (p.x + ((i : Int) * p.dx))) (y := (p.y + ((yy : Int) * p.dy))) ⟨by omega, by omega⟩ ⟨by omega, by omega⟩
    have h44 : 4 * h.w * h.h = 4 * (h.w * h.h) := Int.mul_assoc _ _ _
    refine bK ?_
    refine oV (bG V.ek rfl Nr (vs := [_, _, _]) rfl rfl) ?_
    refine oV (aE V.KY rfl) ?_
    refine oV (ae V.s3 rfl te rfl) ?_
    refine rO dh 2 rfl ?_
    refine oV (ae V.s3 rfl te rfl) ?_
    refine cQ dh 3 rfl (by omega) ?_
    refine oV (ae V.s3 rfl te rfl) ?_
    refine rO dh 2 rfl ?_
    refine oV (ae V.s3 rfl te rfl) ?_
    refine cQ dh 2 rfl (by omega) ?_
    refine oV (bG V.mm rfl an (vs := [_, _, _, _]) rfl rfl) ?_
    refine ai (NW h.w h.h hs q n c hn hcap P (p.x + ((i : Int) * p.dx)) (p.y + ((yy : Int) * p.dy)) ⟨by omega, by omega⟩ ⟨by omega, by omega⟩ c0 c1 c2 c3) V.PV  rfl (.cons O3 .nil) rfl ?_
    rintro _ _ ⟨rfl, rfl⟩
    refine cQ dh 7 rfl (by omega) ?_
    rw [show i * N * D + N * D = (i + 1) * N * D from by rw [Nat.add_mul, Nat.add_mul, Nat.one_mul]]
    exact j3 (i + 1) (aa.fE h row i) (aa.l8 h.w P (p.x + ((i : Int) * p.dx)) (p.y + ((yy : Int) * p.dy)) [c0, c1, c2, c3]) ⟨⟨by omega, hSl, by rw [aa.Fo rfl (by omega)]; exact hPl, aa.MU (f := ⟨h, pl, tr⟩) (by omega) hpx hres⟩, by omega⟩ (js (dp ln)) (sub (.cons oo (.cons ig (.cons kb (.cons kb (.cons bX (ar (.cons ay (.cons bX (.cons ay .nil))))))))) cD)
 ·refine rC dh 11 rfl ?_
  exact ak (aC rfl) (.inr ⟨P, aa.M8 (f := ⟨h, pl, tr⟩) (by omega) hres, hPl, rfl, rfl⟩) (sub (.cons ig (.cons ig (.cons ig (.cons ig (.cons ig .nil))))) mI)
theorem Hq (kind : Int) (p1 : Option Addr) (c1 n1 : Nat) (L1 : List Int) (R1 : ad) (hR1 : ∀ w0 h, R1 w0 h → aS U5 p1 n1 L1 w0 h) (hn1 : L1.length = n1) (hB1 : aj.au L1) (p2 : Option Addr) (c2 n2 : Nat) (L2 : List Int) (R2 : ad) (hR2 : ∀ w0 h, R2 w0 h → aS U5 p2 n2 L2 w0 h) (hn2 : L2.length = n2) (hB2 : aj.au L2) (back : Nat) (hbk : 1 ≤ back ∧ back ≤ 8) (h2 : n2 = 0 ∨ n2 = n1) (hk : 0 ≤ kind) (hn1s : n1 < 500000000) (hq : 4 < kind) : aG Tryz.prog 120 [.int .i64 kind, .slice p1 n1 c1, .slice p2 n2 c2, .int .i64 (back : Int)] [R1, R2] (aQ fun v G => v = .tuple #[.slice none 0 0, .bool false] ∧ G = [R1, R2]) := by
 refine (DH kind p1 c1 n1 L1 R1 hR1 hn1 hB1 p2 c2 n2 L2 R2 hR2 hn2 hB2 back hbk h2 hk hn1s).mono ?_
 rintro e2 G ⟨v, rfl, (⟨_, rfl, rfl⟩ | ⟨h, _⟩)⟩
 ·exact ⟨_, rfl, rfl, rfl⟩
 ·exact absurd hq h
theorem zK (kind : Int) (p1 : Option Addr) (c1 n1 : Nat) (L1 : List Int) (R1 : ad) (hR1 : ∀ w0 h, R1 w0 h → aS U5 p1 n1 L1 w0 h) (hn1 : L1.length = n1) (hB1 : aj.au L1) (p2 : Option Addr) (c2 n2 : Nat) (L2 : List Int) (R2 : ad) (hR2 : ∀ w0 h, R2 w0 h → aS U5 p2 n2 L2 w0 h) (hn2 : L2.length = n2) (hB2 : aj.au L2) (back : Nat) (hbk : 1 ≤ back ∧ back ≤ 8) (h2 : n2 = 0 ∨ n2 = n1) (hk : 0 ≤ kind) (hn1s : n1 < 500000000) (hq : ¬ 4 < kind) : aG Tryz.prog 120 [.int .i64 kind, .slice p1 n1 c1, .slice p2 n2 c2, .int .i64 (back : Int)] [R1, R2] (aQ fun v G => ∃ a : Option Addr × Nat, v = .tuple #[.slice a.1 n1 a.2, .bool true] ∧ G = [Row U5 a.1 n1 a.2 (aa.gk kind L1 L2 back), R1, R2]) := by
 refine (DH kind p1 c1 n1 L1 R1 hR1 hn1 hB1 p2 c2 n2 L2 R2 hR2 hn2 hB2 back hbk h2 hk hn1s).mono ?_
 rintro e2 G ⟨v, rfl, (⟨h, _⟩ | ⟨_, q, cq, rfl, rfl⟩)⟩
 ·exact absurd h hq
 ·exact ⟨_, rfl, (q, cq), rfl, rfl⟩
theorem KM (h : aa.Hd) (bf : Nat) (pp : Option Addr) (pl : List Int) (cp : Nat) (pt : Option Addr) (tr : List Int) (ct : Nat) (pd : Option Addr) (nd cd : Nat) (pk : Option Addr) (ck : Nat) (R : ad) (hP : ∀ w0 h, R w0 h → aS U5 pp pl.length pl w0 h) (hT : ∀ w0 h, R w0 h → aS U5 pt tr.length tr w0 h) (hcp : pl.length ≤ cp) (hB : aj.au pl) (hBt : aj.au tr) (hpl : pl.length < 500000000) (htl : tr.length < 500000000) (Rk : ad) (hRk : ∀ w0 h_, Rk w0 h_ → aS (aP 3 .i64) pk (aa.bD h tr).length (aa.bD h tr) w0 h_) (hf : aa.gw ⟨h, pl, tr⟩) (hs : aa.bR h.w h.h = 0) (q : Option Addr) (n c : Nat) (hn : (n : Int) = 4 * h.w * h.h) (hcap : n ≤ c) (c5 : List Int) (hpx0 : c5.length = n) (p : aa.Ps) (hp : aa.kZ p h.w h.h) (yy : Nat) (hyy : (yy : Int) < p.h) (pb : Option Addr) (cb : Nat) (row : List Int) (hrl : row.length < 500000000) (hBr : aj.au row) (Rb : ad) (hRb : ∀ w0 h, Rb w0 h → aS U5 pb row.length row w0 h) (hbits : ∀ i : Nat, (i : Int) < p.w → i * (aa.parts h.ax).toNat * h.dep.toNat + (aa.parts h.ax).toNat * h.dep.toNat ≤ 8 * row.length) (nl : Nat) (hnl : row.length = nl) (hr : aa.gO ⟨h, pl, tr⟩ p (yy : Int) row p.w.toNat 0 c5 = none) : aG Tryz.prog 121 [.pointer (some ⟨bf, 0, none⟩), .agg #[.int .i64 h.w, .int .i64 h.h, .slice q n c], .agg #[.int .i64 p.x, .int .i64 p.y, .int .i64 p.dx, .int .i64 p.dy, .int .i64 p.w, .int .i64 p.h], .int .i64 (yy : Int), .slice pb nl cb] [ao bf 90 [.int .i64 h.w, .int .i64 h.h, .int .i64 h.dep, .int .i64 h.ax, .bool h.cA, .slice pp pl.length cp, .slice pt tr.length ct, .slice pd nd cd, .slice pk (aa.bD h tr).length ck], Row (aP 62 .u16) q n c c5, Rk, Rb, R] (aQ fun v G => v = .bool false ∧ ∃ P, P.length = n ∧ G = [ao bf 90 [.int .i64 h.w, .int .i64 h.h, .int .i64 h.dep, .int .i64 h.ax, .bool h.cA, .slice pp pl.length cp, .slice pt tr.length ct, .slice pd nd cd, .slice pk (aa.bD h tr).length ck], Row (aP 62 .u16) q n c P, Rk, Rb, R]) := by
 subst hnl
 refine (G5 h bf pp pl cp pt tr ct pd nd cd pk ck R hP hT hcp hB hBt hpl htl Rk hRk hf hs q n c hn hcap c5 hpx0 p hp yy hyy pb cb row hrl hBr Rb hRb hbits).mono ?_
 rintro e2 G ⟨v, rfl, (⟨_, rfl, P, h1, rfl⟩ | ⟨P, h, _⟩)⟩
 ·exact ⟨_, rfl, rfl, P, h1, rfl⟩
 ·rw [hr] at h; cases h
theorem KA (h : aa.Hd) (bf : Nat) (pp : Option Addr) (pl : List Int) (cp : Nat) (pt : Option Addr) (tr : List Int) (ct : Nat) (pd : Option Addr) (nd cd : Nat) (pk : Option Addr) (ck : Nat) (R : ad) (hP : ∀ w0 h, R w0 h → aS U5 pp pl.length pl w0 h) (hT : ∀ w0 h, R w0 h → aS U5 pt tr.length tr w0 h) (hcp : pl.length ≤ cp) (hB : aj.au pl) (hBt : aj.au tr) (hpl : pl.length < 500000000) (htl : tr.length < 500000000) (Rk : ad) (hRk : ∀ w0 h_, Rk w0 h_ → aS (aP 3 .i64) pk (aa.bD h tr).length (aa.bD h tr) w0 h_) (hf : aa.gw ⟨h, pl, tr⟩) (hs : aa.bR h.w h.h = 0) (q : Option Addr) (n c : Nat) (hn : (n : Int) = 4 * h.w * h.h) (hcap : n ≤ c) (c5 : List Int) (hpx0 : c5.length = n) (p : aa.Ps) (hp : aa.kZ p h.w h.h) (yy : Nat) (hyy : (yy : Int) < p.h) (pb : Option Addr) (cb : Nat) (row : List Int) (hrl : row.length < 500000000) (hBr : aj.au row) (Rb : ad) (hRb : ∀ w0 h, Rb w0 h → aS U5 pb row.length row w0 h) (hbits : ∀ i : Nat, (i : Int) < p.w → i * (aa.parts h.ax).toNat * h.dep.toNat + (aa.parts h.ax).toNat * h.dep.toNat ≤ 8 * row.length) (nl : Nat) (hnl : row.length = nl) (P2 : List Int) (hr : aa.gO ⟨h, pl, tr⟩ p (yy : Int) row p.w.toNat 0 c5 = some P2) : aG Tryz.prog 121 [.pointer (some ⟨bf, 0, none⟩), .agg #[.int .i64 h.w, .int .i64 h.h, .slice q n c], .agg #[.int .i64 p.x, .int .i64 p.y, .int .i64 p.dx, .int .i64 p.dy, .int .i64 p.w, .int .i64 p.h], .int .i64 (yy : Int), .slice pb nl cb] [ao bf 90 [.int .i64 h.w, .int .i64 h.h, .int .i64 h.dep, .int .i64 h.ax, .bool h.cA, .slice pp pl.length cp, .slice pt tr.length ct, .slice pd nd cd, .slice pk (aa.bD h tr).length ck], Row (aP 62 .u16) q n c c5, Rk, Rb, R] (aQ fun v G => P2.length = n ∧ v = .bool true ∧ G = [ao bf 90 [.int .i64 h.w, .int .i64 h.h, .int .i64 h.dep, .int .i64 h.ax, .bool h.cA, .slice pp pl.length cp, .slice pt tr.length ct, .slice pd nd cd, .slice pk (aa.bD h tr).length ck], Row (aP 62 .u16) q n c P2, Rk, Rb, R]) := by
 subst hnl
 refine (G5 h bf pp pl cp pt tr ct pd nd cd pk ck R hP hT hcp hB hBt hpl htl Rk hRk hf hs q n c hn hcap c5 hpx0 p hp yy hyy pb cb row hrl hBr Rb hRb hbits).mono ?_
 rintro e2 G ⟨v, rfl, (⟨h, _⟩ | ⟨P, h, h1, rfl, rfl⟩)⟩
 ·rw [hr] at h; cases h
 ·rw [hr] at h; cases h; exact ⟨_, rfl, h1, rfl, rfl⟩
structure Ga where
 a : Nat
 pz : Option Addr
 cz : Nat
 pa : Option Addr
 na : Nat
 ca : Nat
 A : List Int
 P : List Int
set_option maxHeartbeats 8000000 in
theorem Dp (h : aa.Hd) (bf : Nat) (pp : Option Addr) (pl : List Int) (cp : Nat) (pt : Option Addr) (tr : List Int) (ct : Nat) (pd : Option Addr) (nd cd : Nat) (pk : Option Addr) (ck : Nat) (R : ad) (hP : ∀ w0 h, R w0 h → aS U5 pp pl.length pl w0 h) (hT : ∀ w0 h, R w0 h → aS U5 pt tr.length tr w0 h) (hcp : pl.length ≤ cp) (hB : aj.au pl) (hBt : aj.au tr) (hpl : pl.length < 500000000) (htl : tr.length < 500000000) (Rk : ad) (hRk : ∀ w0 h_, Rk w0 h_ → aS (aP 3 .i64) pk (aa.bD h tr).length (aa.bD h tr) w0 h_) (hf : aa.gw ⟨h, pl, tr⟩) (hs : aa.bR h.w h.h = 0) (q : Option Addr) (n c : Nat) (hn : (n : Int) = 4 * h.w * h.h) (hcap : n ≤ c) (c5 : List Int) (hpx0 : c5.length = n) (p : aa.Ps) (hp : aa.kZ p h.w h.h) (Dt : List Int) (hDB : aj.au Dt) (hDl : Dt.length < 500000000) (nr : Nat) (hnr : (nr : Int) = aa.fk p.w (aa.parts h.ax * h.dep)) (back : Nat) (hback : (back : Int) = max 1 ((aa.parts h.ax * h.dep) / 8)) (at0 : Nat) (hat : at0 + p.h.toNat * (1 + nr) ≤ Dt.length) (pb : Option Addr) (cb : Nat) (Rb : ad) (hRb : ∀ w0 h, Rb w0 h → aS U5 pb (Dt.length - at0) (Dt.drop at0) w0 h) (hcb : Dt.length - at0 ≤ cb) : aG Tryz.prog 86 [.pointer (some ⟨bf, 0, none⟩), .agg #[.int .i64 h.w, .int .i64 h.h, .slice q n c], .agg #[.int .i64 p.x, .int .i64 p.y, .int .i64 p.dx, .int .i64 p.dy, .int .i64 p.w, .int .i64 p.h], .slice pb (Dt.length - at0) cb] [ao bf 90 [.int .i64 h.w, .int .i64 h.h, .int .i64 h.dep, .int .i64 h.ax, .bool h.cA, .slice pp pl.length cp, .slice pt tr.length ct, .slice pd nd cd, .slice pk (aa.bD h tr).length ck], Row (aP 62 .u16) q n c c5, Rk, Rb, R] (aQ fun v G => (aa.fh ⟨h, pl, tr⟩ Dt nr back p p.h.toNat 0 at0 [] c5 = none ∧ v = .tuple #[.slice none 0 0, .bool false] ∧ ∃ P, P.length = n ∧ G = [ao bf 90 [.int .i64 h.w, .int .i64 h.h, .int .i64 h.dep, .int .i64 h.ax, .bool h.cA, .slice pp pl.length cp, .slice pt tr.length ct, .slice pd nd cd, .slice pk (aa.bD h tr).length ck], Row (aP 62 .u16) q n c P, Rk, Rb, R]) ∨ ∃ at2 P pz cz, aa.fh ⟨h, pl, tr⟩ Dt nr back p p.h.toNat 0 at0 [] c5 = some (at2, P) ∧ P.length = n ∧ at2 = at0 + p.h.toNat * (1 + nr) ∧ (∀ w0 h, Rb w0 h → aS U5 pz (Dt.length - at2) (Dt.drop at2) w0 h) ∧ Dt.length - at2 ≤ cz ∧ v = .tuple #[.slice pz (Dt.length - at2) cz, .bool true] ∧ G = [ao bf 90 [.int .i64 h.w, .int .i64 h.h, .int .i64 h.dep, .int .i64 h.ax, .bool h.cA, .slice pp pl.length cp, .slice pt tr.length ct, .slice pd nd cd, .slice pk (aa.bD h tr).length ck], Row (aP 62 .u16) q n c P, Rk, Rb, R]) := by
 refine av [(0, _), (1, _), (2, _), (3, _)] Tryz.func86 rfl Tryz.ntmps86 rfl rfl ?_
 intro w0 F
 have hde : aa.deep h.ax h.dep := by unfold aa.gw at hf; exact hf.1
 have hpc := aa.ij hde
 have hdi := aa.jR (aa.iD hde)
 have hpo := hp
 unfold aa.kZ aa.j6 at hpo
 obtain ⟨⟨hx0, hx1, hy0, hy1, hdx, hdy, hw0, hw1, hh0, hh1⟩, hix, hiy⟩ := hpo
 have hsd := aa.ke hs
 have hbits := aa.my hde
 have hbk : 1 ≤ back ∧ back ≤ 8 := by omega
 obtain ⟨RES, hRES⟩ : ∃ r, r = aa.fh ⟨h, pl, tr⟩ Dt nr back p p.h.toNat 0 at0 [] c5 := ⟨_, rfl⟩
 rw [← hRES]
 refine rT dh 2 rfl ?_
 refine eN rfl (cs := [_, _, _]) rfl rfl ?_
 intro b5
 refine eN rfl (cs := [_, _, _, _, _, _]) rfl rfl ?_
 intro b6
 refine rO dh 5 rfl ?_
 refine wN [pz 0 [] [0], pz 1 [0] [], pz 3 [1] [], pz 7 [2] [], pz 15 [3] [], pz 31 [4] [], pz 0 [] [0], pz 64 [6] [], pz 192 [7] [], pz 448 [8] [], pz 960 [9] [], pz 2047 [5, 10] [], pz 4095 [11] []] [⟨fun y => ao b6 145 [.int .i64 p.x, .int .i64 p.y, .int .i64 p.dx, .int .i64 p.dy, .int .i64 p.w, .int .i64 p.h], none, none, []⟩, ⟨fun y => ao b5 26 [.int .i64 h.w, .int .i64 h.h, .slice q n c], none, none, []⟩, ⟨fun y => ao bf 90 [.int .i64 h.w, .int .i64 h.h, .int .i64 h.dep, .int .i64 h.ax, .bool h.cA, .slice pp pl.length cp, .slice pt tr.length ct, .slice pd nd cd, .slice pk (aa.bD h tr).length ck], none, none, [4, 10]⟩, ⟨fun y => Row (aP 62 .u16) q n c c5, none, none, []⟩, ⟨fun y => Rk, none, none, []⟩, ⟨fun y => Rb, none, none, []⟩, ⟨fun y => R, none, none, []⟩] F V.mixed ?_
 refine nM ?_
 refine nN ?_
 refine nG V.iG ?_
 refine nG V.qW ?_
 refine nR (fun y FF hA => ae V.s3 rfl an rfl) ?_
 refine nE (fun y FF hA => bO (Post := []) (iT h.ax) V.pH rfl .nil (fun v G h => by rcases h with ⟨rfl, rfl⟩; exact ⟨rfl, .refl _⟩)) ?_
 refine nM ?_
 refine nN ?_
 refine nG V.iG ?_
 refine nG V.mb ?_
 refine nR (fun y FF hA => ae V.s3 rfl an rfl) ?_
 refine nV (fun y hA L => jv (r := (aa.parts h.ax * h.dep)) rfl rfl wI) ?_
 refine nA ?_
 refine aX ?_
 intro y hA
 clear hA
 refine bN ?_
 refine cu [(0, .pointer (some ⟨bf, 0, none⟩)), (3, .slice pb (Dt.length - at0) cb), (5, .pointer (some ⟨b5, 0, none⟩)), (6, .pointer (some ⟨b6, 0, none⟩)), (10, .int .i64 (aa.parts h.ax * h.dep))] (.cons (d := 0) rfl (.cons (d := 3) rfl (.cons (d := 5) rfl (.cons (d := 6) rfl (.cons (d := 10) rfl (.nil _)))))) ?_
 refine bS (M := ao b6 145 [.int .i64 p.x, .int .i64 p.y, .int .i64 p.dx, .int .i64 p.dy, .int .i64 p.w, .int .i64 p.h] :: ao b5 26 [.int .i64 h.w, .int .i64 h.h, .slice q n c] :: ao bf 90 [.int .i64 h.w, .int .i64 h.h, .int .i64 h.dep, .int .i64 h.ax, .bool h.cA, .slice pp pl.length cp, .slice pt tr.length ct, .slice pd nd cd, .slice pk (aa.bD h tr).length ck] :: Row (aP 62 .u16) q n c c5 :: Rk :: Rb :: R :: F) (fun _ _ h => h) ?_
 refine rC dh 3 rfl ?_
 refine oV (ae V.s3 rfl an rfl) ?_
 refine oV (aK rfl) ?_
 refine ai (Gj p.w (aa.parts h.ax * h.dep) ⟨hw0, hw1⟩ ⟨by omega, by omega⟩) V.LS  rfl .nil rfl ?_
 rintro _ _ ⟨rfl, rfl⟩
 rw [← hnr]
 refine oV (aK rfl) ?_
 refine oV (fY rfl rfl (by omega) (jL (by omega) (by omega) (by omega))) ?_
 refine oV (cK (v := .int .i64 (back : Int)) (Ap rfl rfl) (congrArg (Value.int .i64) ((aa.MW _).trans hback.symm))) ?_
 refine rO dh 13 rfl ?_
 refine oV (ae V.s3 rfl an rfl) ?_
 refine rO dh 4 rfl ?_
 refine gp (Row U5 none 0 0 []) (Row.nil _ _ _) ?_
 refine il (fun (yv : Nat) (s : Ga) => [(0, .pointer (some ⟨bf, 0, none⟩)), (3, .slice s.pz (Dt.length - s.a) s.cz), (5, .pointer (some ⟨b5, 0, none⟩)), (6, .pointer (some ⟨b6, 0, none⟩)), (11, .int .i64 (nr : Int)), (12, .int .i64 (back : Int)), (13, .slice s.pa s.na s.ca), (37, .int .i64 p.h), (38, .int .i64 (yv : Int))]) (fun (yv : Nat) (s : Ga) => Rb :: Row U5 s.pa s.na s.ca s.A :: ao b5 26 [.int .i64 h.w, .int .i64 h.h, .slice q n c] :: ao b6 145 [.int .i64 p.x, .int .i64 p.y, .int .i64 p.dx, .int .i64 p.dy, .int .i64 p.w, .int .i64 p.h] :: ao bf 90 [.int .i64 h.w, .int .i64 h.h, .int .i64 h.dep, .int .i64 h.ax, .bool h.cA, .slice pp pl.length cp, .slice pt tr.length ct, .slice pd nd cd, .slice pk (aa.bD h tr).length ck] :: Row (aP 62 .u16) q n c s.P :: Rk :: R :: F) (fun (yv : Nat) (s : Ga) => (yv : Int) ≤ p.h ∧ s.a = at0 + yv * (1 + nr) ∧ s.P.length = n ∧ s.A.length = s.na ∧ (s.na = 0 ∨ s.na = nr) ∧ aj.au s.A ∧ (∀ w0 h, Rb w0 h → aS U5 s.pz (Dt.length - s.a) (Dt.drop s.a) w0 h) ∧ Dt.length - s.a ≤ s.cz ∧ aa.fh ⟨h, pl, tr⟩ Dt nr back p (p.h.toNat - yv) yv s.a s.A s.P = RES) (fun (yv : Nat) (s : Ga) => p.h.toNat - yv) (i2 (0) (⟨at0, pb, cb, none, 0, 0, [], c5⟩) ?_ (fo (dp ln)) (sub (.cons oo (ar (.cons ay (.cons dQ (.cons dQ (.cons dQ (.cons dQ (.cons dQ .nil)))))))) aw)) ?_
 ·exact ⟨by omega, by simp, hpx0, rfl, .inl rfl, aa.iQ, hRb, hcb, hRES.symm⟩
 intro yv s
 rintro ⟨hy, ha, hPl, hAl, hAn, hAB, hz, hcz, hres⟩
 refine rL dh 6 rfl ?_
 refine aN rfl (fun h39 => ?_) (fun h39 => ?_)
 ·refine rC dh 10 rfl ?_
  rcases (aa.OL ⟨h, pl, tr⟩ Dt nr back p yv s.a s.A s.P) with hk4 | ⟨hk4, hr⟩ | ⟨hk4, P2, hr⟩
  ·refine rC dh 1 rfl ?_
   have hyh : (yv : Int) < p.h := by omega
   have hya : (yv + 1) * (1 + nr) ≤ p.h.toNat * (1 + nr) := Nat.mul_le_mul_right _ (by omega)
   rw [Nat.add_mul, Nat.one_mul] at hya
   have hKD : U5.g (Dt.drop s.a) 0 = (Dt.getD s.a 0) := aa.gG Dt s.a 0
   have hKB : 0 ≤ U5.g (Dt.drop s.a) 0 ∧ U5.g (Dt.drop s.a) 0 < 256 := hKD ▸ hDB.get _
   have hdl : (Dt.drop s.a).length = Dt.length - s.a := List.length_drop
   have hL1l : ((Dt.drop (s.a + 1)).take nr).length = nr := by rw [List.length_take, List.length_drop]; omega
   have hUl : (aa.gk (Dt.getD s.a 0) ((Dt.drop (s.a + 1)).take nr) s.A back).length = nr := (aa.uQ ..).trans hL1l
   have hS1 : ∀ w0 h, Rb w0 h → aS U5 (eo s.pz 1 s.cz 1) nr ((Dt.drop (s.a + 1)).take nr) w0 h := fun w0 h hh => by have := lO (cap := 0) (gW (c := U5) hz hdl 1 s.cz (by omega) hcz) nr (by omega) w0 h hh; rwa [List.drop_drop] at this
   refine wN [pz 0 [] [3], pz 1 [0] [], pz 3 [1] [], pz 7 [2] [], pz 0 [] [3], pz 0 [] [11], pz 32 [5] [], pz 112 [4, 6] [], pz 0 [] [13], pz 0 [] [12], pz 1023 [3, 7, 8, 9] [], pz 2047 [10] [], pz 4095 [11] [], pz 4095 [11] [], pz 8191 [12] [], pz 32767 [13] []] [⟨fun y => Rb, none, none, [1, 2, 10]⟩, ⟨fun y => Row U5 s.pa s.na s.ca s.A, none, none, [10]⟩, ⟨fun y => ao b5 26 [.int .i64 h.w, .int .i64 h.h, .slice q n c], none, none, []⟩, ⟨fun y => ao b6 145 [.int .i64 p.x, .int .i64 p.y, .int .i64 p.dx, .int .i64 p.dy, .int .i64 p.w, .int .i64 p.h], none, none, []⟩, ⟨fun y => ao bf 90 [.int .i64 h.w, .int .i64 h.h, .int .i64 h.dep, .int .i64 h.ax, .bool h.cA, .slice pp pl.length cp, .slice pt tr.length ct, .slice pd nd cd, .slice pk (aa.bD h tr).length ck], none, none, []⟩, ⟨fun y => Row (aP 62 .u16) q n c s.P, none, none, []⟩, ⟨fun y => Rk, none, none, []⟩, ⟨fun y => R, none, none, []⟩] F V.mixed ?_
   refine nM ?_
   refine nR (fun y FF hA => xI V.bY (by exact bE hz an)) ?_
   refine nR (fun y FF hA => xL V.s5 (by exact bE hz an)) ?_
   refine nV (fun y hA L => cK (v := .int .i64 (Dt.getD s.a 0)) (bg V.u5 Tryz.underlying3 rfl (aa.Be hKB)) (congrArg (Value.int .i64) hKD)) ?_
   iterate 2 refine nM ?_
   refine nV (fun y hA L => cK (v := .int .i64 ((nr + 1 : Nat) : Int)) (du (r := 1 + (nr : Int)) rfl rfl wI) (congrArg (Value.int .i64) (by omega))) ?_
   refine nV (fun y hA L => dX 1 (nr + 1) s.cz V.bY rfl ⟨_, rfl⟩ ⟨_, rfl⟩ rfl (by omega) (by omega) (by omega)) ?_
   iterate 2 refine nM ?_
   refine nE (fun y FF hA => bO (Post := [Rb, Row U5 s.pa s.na s.ca s.A]) (Hq (Dt.getD s.a 0) (eo s.pz 1 s.cz 1) (s.cz - 1) nr ((Dt.drop (s.a + 1)).take nr) Rb hS1 hL1l (aa.fL (aa.eu hDB _) _) s.pa s.ca s.na s.A (Row U5 s.pa s.na s.ca s.A) (fun _ _ hh => hh.rd) hAl hAB back hbk (by omega) (hDB.get _).1 (by omega) hk4) V.EC rfl (bF .nil) (fun v G h => by rcases h with ⟨rfl, rfl⟩; exact ⟨rfl, .refl _⟩)) ?_
   refine nM ?_
   iterate 2 refine nV (fun y hA L => fz rfl rfl) ?_
   iterate 2 refine nA ?_
   refine aX ?_
   intro y hA
   clear hA
   refine bN ?_
   refine cu [(0, .pointer (some ⟨bf, 0, none⟩)), (3, .slice s.pz (Dt.length - s.a) s.cz), (5, .pointer (some ⟨b5, 0, none⟩)), (6, .pointer (some ⟨b6, 0, none⟩)), (11, .int .i64 (nr : Int)), (12, .int .i64 (back : Int)), (14, .int .i64 (yv : Int)), (15, .slice none 0 0), (16, .bool false), (37, .int .i64 p.h), (38, .int .i64 (yv : Int))] (.cons (d := 0) rfl (.cons (d := 3) rfl (.cons (d := 5) rfl (.cons (d := 6) rfl (.cons (d := 11) rfl (.cons (d := 12) rfl (.cons (d := 14) rfl (.cons (d := 15) rfl (.cons (d := 16) rfl (.cons (d := 37) rfl (.cons (d := 38) rfl (.nil _)))))))))))) ?_
   refine bS (M := Rb :: Row U5 s.pa s.na s.ca s.A :: ao b5 26 [.int .i64 h.w, .int .i64 h.h, .slice q n c] :: ao b6 145 [.int .i64 p.x, .int .i64 p.y, .int .i64 p.dx, .int .i64 p.dy, .int .i64 p.w, .int .i64 p.h] :: ao bf 90 [.int .i64 h.w, .int .i64 h.h, .int .i64 h.dep, .int .i64 h.ax, .bool h.cA, .slice pp pl.length cp, .slice pt tr.length ct, .slice pd nd cd, .slice pk (aa.bD h tr).length ck] :: Row (aP 62 .u16) q n c s.P :: Rk :: R :: F) (fun _ _ h => h) ?_
   refine bS (sub .nil (.keep (.skip (.keep (.keep (.keep (.keep (.keep (.keep .refl))))))))) ?_
   simp only [List.nil_append]
   refine rC dh 30 rfl ?_
   (exact ak (G := [ao bf 90 [.int .i64 h.w, .int .i64 h.h, .int .i64 h.dep, .int .i64 h.ax, .bool h.cA, .slice pp pl.length cp, .slice pt tr.length ct, .slice pd nd cd, .slice pk (aa.bD h tr).length ck], Row (aP 62 .u16) q n c s.P, Rk, Rb, R]) (fD rfl rfl) (.inl ⟨aa.I5 hyh hk4 hres, rfl, s.P, hPl, rfl⟩) (sub (.cons dI (.cons dI (.cons dI (ar (.cons bX .nil))))) ie))
  ·refine rC dh 1 rfl ?_
   have hyh : (yv : Int) < p.h := by omega
   have hya : (yv + 1) * (1 + nr) ≤ p.h.toNat * (1 + nr) := Nat.mul_le_mul_right _ (by omega)
   rw [Nat.add_mul, Nat.one_mul] at hya
   have hKD : U5.g (Dt.drop s.a) 0 = (Dt.getD s.a 0) := aa.gG Dt s.a 0
   have hKB : 0 ≤ U5.g (Dt.drop s.a) 0 ∧ U5.g (Dt.drop s.a) 0 < 256 := hKD ▸ hDB.get _
   have hdl : (Dt.drop s.a).length = Dt.length - s.a := List.length_drop
   have hL1l : ((Dt.drop (s.a + 1)).take nr).length = nr := by rw [List.length_take, List.length_drop]; omega
   have hUl : (aa.gk (Dt.getD s.a 0) ((Dt.drop (s.a + 1)).take nr) s.A back).length = nr := (aa.uQ ..).trans hL1l
   have hS1 : ∀ w0 h, Rb w0 h → aS U5 (eo s.pz 1 s.cz 1) nr ((Dt.drop (s.a + 1)).take nr) w0 h := fun w0 h hh => by have := lO (cap := 0) (gW (c := U5) hz hdl 1 s.cz (by omega) hcz) nr (by omega) w0 h hh; rwa [List.drop_drop] at this
   refine ly [pz 0 [] [3], pz 1 [0] [], pz 3 [1] [], pz 7 [2] [], pz 0 [] [3], pz 0 [] [11], pz 32 [5] [], pz 112 [4, 6] [], pz 0 [] [13], pz 0 [] [12], pz 1023 [3, 7, 8, 9] [], pz 2047 [10] [], pz 4095 [11] [], pz 4095 [11] [], pz 8191 [12] [], pz 32767 [13] []] [⟨fun y => Rb, none, none, [1, 2, 10]⟩, ⟨fun y => Row U5 s.pa s.na s.ca s.A, none, none, [10]⟩, ⟨fun y => ao b5 26 [.int .i64 h.w, .int .i64 h.h, .slice q n c], none, none, []⟩, ⟨fun y => ao b6 145 [.int .i64 p.x, .int .i64 p.y, .int .i64 p.dx, .int .i64 p.dy, .int .i64 p.w, .int .i64 p.h], none, none, []⟩, ⟨fun y => ao bf 90 [.int .i64 h.w, .int .i64 h.h, .int .i64 h.dep, .int .i64 h.ax, .bool h.cA, .slice pp pl.length cp, .slice pt tr.length ct, .slice pd nd cd, .slice pk (aa.bD h tr).length ck], none, none, []⟩, ⟨fun y => Row (aP 62 .u16) q n c s.P, none, none, []⟩, ⟨fun y => Rk, none, none, []⟩, ⟨fun y => R, none, none, []⟩, ⟨fun y => Row U5 (jJ (y 10)).1 nr (jJ (y 10)).2 (aa.gk (Dt.getD s.a 0) ((Dt.drop (s.a + 1)).take nr) s.A back), some 10, none, []⟩] F V.mixed (by kernel_rfl) rfl (fun _ => .refl _) (cn _ (cn _ (cn _ (cn _ (cn _ (cn _ (cn _ (cn _ (eB _ rfl (by intro y y2 h; simp only [h 10 (.inl rfl)]) ir))))))))) ?_
   refine nM ?_
   refine nR (fun y FF hA => xI V.bY (by exact bE hz an)) ?_
   refine nR (fun y FF hA => xL V.s5 (by exact bE hz an)) ?_
   refine nV (fun y hA L => cK (v := .int .i64 (Dt.getD s.a 0)) (bg V.u5 Tryz.underlying3 rfl (aa.Be hKB)) (congrArg (Value.int .i64) hKD)) ?_
   iterate 2 refine nM ?_
   refine nV (fun y hA L => cK (v := .int .i64 ((nr + 1 : Nat) : Int)) (du (r := 1 + (nr : Int)) rfl rfl wI) (congrArg (Value.int .i64) (by omega))) ?_
   refine nV (fun y hA L => dX 1 (nr + 1) s.cz V.bY rfl ⟨_, rfl⟩ ⟨_, rfl⟩ rfl (by omega) (by omega) (by omega)) ?_
   iterate 2 refine nM ?_
   refine gU (fun y v => .tuple #[.slice (jJ v).1 nr (jJ v).2, .bool true]) (fun y v => True) _ _ (fun y v => [Row U5 (jJ v).1 nr (jJ v).2 (aa.gk (Dt.getD s.a 0) ((Dt.drop (s.a + 1)).take nr) s.A back)]) _ (fun y => rfl) (fun y => rfl) (fun y => rfl) (fun y => rfl) (fun y FF hA => sI (α := Option Addr × Nat) (fun a => .tuple #[.slice a.1 nr a.2, .bool true]) jJ (fun a => [Row U5 a.1 nr a.2 (aa.gk (Dt.getD s.a 0) ((Dt.drop (s.a + 1)).take nr) s.A back), Rb, Row U5 s.pa s.na s.ca s.A]) (zK (Dt.getD s.a 0) (eo s.pz 1 s.cz 1) (s.cz - 1) nr ((Dt.drop (s.a + 1)).take nr) Rb hS1 hL1l (aa.fL (aa.eu hDB _) _) s.pa s.ca s.na s.A (Row U5 s.pa s.na s.ca s.A) (fun _ _ hh => hh.rd) hAl hAB back hbk (by omega) (hDB.get _).1 (by omega) hk4) (fun a => rfl) V.EC rfl (bF .nil)) (by intros; rfl) (by intros; rfl) (by intros; rfl) (by intro y y2 h; simp only [h 10 (.inl rfl)]) (by intro y y2 h; rfl) ?_
   refine bU _ (fun y => rfl) rfl rfl rfl (fun y hA L => dC (aK rfl) ⟨rfl, rfl⟩) (by intros; rfl) (by intro y y2 h; simp only [h 10 (.inr (by decide))]) ?_
   refine bU _ (fun y => rfl) rfl rfl rfl (fun y hA L => dC (fz rfl rfl) ⟨rfl, rfl⟩) (by intros; rfl) (by intro y y2 h; simp only [h 10 (.inr (by decide))]) ?_
   refine nV (fun y hA L => fz rfl rfl) ?_
   refine bU _ (fun y => rfl) rfl rfl rfl (fun y hA L => dC (eZ rfl) ⟨rfl, rfl⟩) (by intros; rfl) (by intro y y2 h; simp only [h 10 (.inr (by decide))]) ?_
   refine nA ?_
   refine aX ?_
   intro y hA
   clear hA
   refine bN ?_
   refine cu [(0, .pointer (some ⟨bf, 0, none⟩)), (3, .slice s.pz (Dt.length - s.a) s.cz), (5, .pointer (some ⟨b5, 0, none⟩)), (6, .pointer (some ⟨b6, 0, none⟩)), (11, .int .i64 (nr : Int)), (12, .int .i64 (back : Int)), (14, .int .i64 (yv : Int)), (15, .slice (jJ (y 10)).1 nr (jJ (y 10)).2), (16, .bool true), (37, .int .i64 p.h), (38, .int .i64 (yv : Int))] (.cons (d := 0) rfl (.cons (d := 3) rfl (.cons (d := 5) rfl (.cons (d := 6) rfl (.cons (d := 11) rfl (.cons (d := 12) rfl (.cons (d := 14) rfl (.cons (d := 15) rfl (.cons (d := 16) rfl (.cons (d := 37) rfl (.cons (d := 38) rfl (.nil _)))))))))))) ?_
   refine bS (M := Rb :: Row U5 s.pa s.na s.ca s.A :: ao b5 26 [.int .i64 h.w, .int .i64 h.h, .slice q n c] :: ao b6 145 [.int .i64 p.x, .int .i64 p.y, .int .i64 p.dx, .int .i64 p.dy, .int .i64 p.w, .int .i64 p.h] :: ao bf 90 [.int .i64 h.w, .int .i64 h.h, .int .i64 h.dep, .int .i64 h.ax, .bool h.cA, .slice pp pl.length cp, .slice pt tr.length ct, .slice pd nd cd, .slice pk (aa.bD h tr).length ck] :: Row (aP 62 .u16) q n c s.P :: Rk :: R :: Row U5 (jJ (y 10)).1 nr (jJ (y 10)).2 (aa.gk (Dt.getD s.a 0) ((Dt.drop (s.a + 1)).take nr) s.A back) :: F) (fun _ _ h => h) ?_
   refine bS (sub .nil (.keep (.skip (.keep (.keep (.keep (.keep (.keep (.keep (.keep .refl)))))))))) ?_
   simp only [List.nil_append]
   generalize (jJ (y 10)).1 = q15
   generalize (jJ (y 10)).2 = c15
   refine rC dh 7 rfl ?_
   refine ag rfl ?_
   refine oV (bG V.ek rfl bW (vs := [_, _, _]) rfl rfl) ?_
   refine ag rfl ?_
   refine oV (bG V.a145 rfl dJ (vs := [_, _, _, _, _, _]) rfl rfl) ?_
   refine rO dh 2 rfl ?_
   refine ag rfl ?_
   refine ai (KM h bf pp pl cp pt tr ct pd nd cd pk ck R hP hT hcp hB hBt hpl htl Rk hRk hf hs q n c hn hcap s.P hPl p hp yv hyh q15 c15 (aa.gk (Dt.getD s.a 0) ((Dt.drop (s.a + 1)).take nr) s.A back) (by rw [hUl]; omega) (aa.uL ..) (Row U5 q15 nr c15 (aa.gk (Dt.getD s.a 0) ((Dt.drop (s.a + 1)).take nr) s.A back)) (fun _ _ hh => by rw [hUl]; exact hh.rd) (by rw [hUl]; exact aa.wv (by omega) (by omega) hnr) nr hUl hr) V.MZ  rfl (.cons dI (.cons dI (.cons dI (.cons ig (.cons dI .nil))))) rfl ?_
   rintro _ _ ⟨rfl, P2, hP2, rfl⟩
   refine rO dh 18 rfl ?_
   (exact ak (G := [ao bf 90 [.int .i64 h.w, .int .i64 h.h, .int .i64 h.dep, .int .i64 h.ax, .bool h.cA, .slice pp pl.length cp, .slice pt tr.length ct, .slice pd nd cd, .slice pk (aa.bD h tr).length ck], Row (aP 62 .u16) q n c P2, Rk, Rb, R]) (fD rfl rfl) (.inl ⟨aa.HT hyh hk4 hr hres, rfl, P2, hP2, rfl⟩) (sub (gm (.cons bX (.cons ay .nil))) n8))
  ·refine rC dh 1 rfl ?_
   have hyh : (yv : Int) < p.h := by omega
   have hya : (yv + 1) * (1 + nr) ≤ p.h.toNat * (1 + nr) := Nat.mul_le_mul_right _ (by omega)
   rw [Nat.add_mul, Nat.one_mul] at hya
   have hKD : U5.g (Dt.drop s.a) 0 = (Dt.getD s.a 0) := aa.gG Dt s.a 0
   have hKB : 0 ≤ U5.g (Dt.drop s.a) 0 ∧ U5.g (Dt.drop s.a) 0 < 256 := hKD ▸ hDB.get _
   have hdl : (Dt.drop s.a).length = Dt.length - s.a := List.length_drop
   have hL1l : ((Dt.drop (s.a + 1)).take nr).length = nr := by rw [List.length_take, List.length_drop]; omega
   have hUl : (aa.gk (Dt.getD s.a 0) ((Dt.drop (s.a + 1)).take nr) s.A back).length = nr := (aa.uQ ..).trans hL1l
   have hS1 : ∀ w0 h, Rb w0 h → aS U5 (eo s.pz 1 s.cz 1) nr ((Dt.drop (s.a + 1)).take nr) w0 h := fun w0 h hh => by have := lO (cap := 0) (gW (c := U5) hz hdl 1 s.cz (by omega) hcz) nr (by omega) w0 h hh; rwa [List.drop_drop] at this
   refine ly [pz 0 [] [3], pz 1 [0] [], pz 3 [1] [], pz 7 [2] [], pz 0 [] [3], pz 0 [] [11], pz 32 [5] [], pz 112 [4, 6] [], pz 0 [] [13], pz 0 [] [12], pz 1023 [3, 7, 8, 9] [], pz 2047 [10] [], pz 4095 [11] [], pz 4095 [11] [], pz 8191 [12] [], pz 32767 [13] []] [⟨fun y => Rb, none, none, [1, 2, 10]⟩, ⟨fun y => Row U5 s.pa s.na s.ca s.A, none, none, [10]⟩, ⟨fun y => ao b5 26 [.int .i64 h.w, .int .i64 h.h, .slice q n c], none, none, []⟩, ⟨fun y => ao b6 145 [.int .i64 p.x, .int .i64 p.y, .int .i64 p.dx, .int .i64 p.dy, .int .i64 p.w, .int .i64 p.h], none, none, []⟩, ⟨fun y => ao bf 90 [.int .i64 h.w, .int .i64 h.h, .int .i64 h.dep, .int .i64 h.ax, .bool h.cA, .slice pp pl.length cp, .slice pt tr.length ct, .slice pd nd cd, .slice pk (aa.bD h tr).length ck], none, none, []⟩, ⟨fun y => Row (aP 62 .u16) q n c s.P, none, none, []⟩, ⟨fun y => Rk, none, none, []⟩, ⟨fun y => R, none, none, []⟩, ⟨fun y => Row U5 (jJ (y 10)).1 nr (jJ (y 10)).2 (aa.gk (Dt.getD s.a 0) ((Dt.drop (s.a + 1)).take nr) s.A back), some 10, none, []⟩] F V.mixed (by kernel_rfl) rfl (fun _ => .refl _) (cn _ (cn _ (cn _ (cn _ (cn _ (cn _ (cn _ (cn _ (eB _ rfl (by intro y y2 h; simp only [h 10 (.inl rfl)]) ir))))))))) ?_
   refine nM ?_
   refine nR (fun y FF hA => xI V.bY (by exact bE hz an)) ?_
   refine nR (fun y FF hA => xL V.s5 (by exact bE hz an)) ?_
   refine nV (fun y hA L => cK (v := .int .i64 (Dt.getD s.a 0)) (bg V.u5 Tryz.underlying3 rfl (aa.Be hKB)) (congrArg (Value.int .i64) hKD)) ?_
   iterate 2 refine nM ?_
   refine nV (fun y hA L => cK (v := .int .i64 ((nr + 1 : Nat) : Int)) (du (r := 1 + (nr : Int)) rfl rfl wI) (congrArg (Value.int .i64) (by omega))) ?_
   refine nV (fun y hA L => dX 1 (nr + 1) s.cz V.bY rfl ⟨_, rfl⟩ ⟨_, rfl⟩ rfl (by omega) (by omega) (by omega)) ?_
   iterate 2 refine nM ?_
   refine gU (fun y v => .tuple #[.slice (jJ v).1 nr (jJ v).2, .bool true]) (fun y v => True) _ _ (fun y v => [Row U5 (jJ v).1 nr (jJ v).2 (aa.gk (Dt.getD s.a 0) ((Dt.drop (s.a + 1)).take nr) s.A back)]) _ (fun y => rfl) (fun y => rfl) (fun y => rfl) (fun y => rfl) (fun y FF hA => sI (α := Option Addr × Nat) (fun a => .tuple #[.slice a.1 nr a.2, .bool true]) jJ (fun a => [Row U5 a.1 nr a.2 (aa.gk (Dt.getD s.a 0) ((Dt.drop (s.a + 1)).take nr) s.A back), Rb, Row U5 s.pa s.na s.ca s.A]) (zK (Dt.getD s.a 0) (eo s.pz 1 s.cz 1) (s.cz - 1) nr ((Dt.drop (s.a + 1)).take nr) Rb hS1 hL1l (aa.fL (aa.eu hDB _) _) s.pa s.ca s.na s.A (Row U5 s.pa s.na s.ca s.A) (fun _ _ hh => hh.rd) hAl hAB back hbk (by omega) (hDB.get _).1 (by omega) hk4) (fun a => rfl) V.EC rfl (bF .nil)) (by intros; rfl) (by intros; rfl) (by intros; rfl) (by intro y y2 h; simp only [h 10 (.inl rfl)]) (by intro y y2 h; rfl) ?_
   refine bU _ (fun y => rfl) rfl rfl rfl (fun y hA L => dC (aK rfl) ⟨rfl, rfl⟩) (by intros; rfl) (by intro y y2 h; simp only [h 10 (.inr (by decide))]) ?_
   refine bU _ (fun y => rfl) rfl rfl rfl (fun y hA L => dC (fz rfl rfl) ⟨rfl, rfl⟩) (by intros; rfl) (by intro y y2 h; simp only [h 10 (.inr (by decide))]) ?_
   refine nV (fun y hA L => fz rfl rfl) ?_
   refine bU _ (fun y => rfl) rfl rfl rfl (fun y hA L => dC (eZ rfl) ⟨rfl, rfl⟩) (by intros; rfl) (by intro y y2 h; simp only [h 10 (.inr (by decide))]) ?_
   refine nA ?_
   refine aX ?_
   intro y hA
   clear hA
   refine bN ?_
   refine cu [(0, .pointer (some ⟨bf, 0, none⟩)), (3, .slice s.pz (Dt.length - s.a) s.cz), (5, .pointer (some ⟨b5, 0, none⟩)), (6, .pointer (some ⟨b6, 0, none⟩)), (11, .int .i64 (nr : Int)), (12, .int .i64 (back : Int)), (14, .int .i64 (yv : Int)), (15, .slice (jJ (y 10)).1 nr (jJ (y 10)).2), (16, .bool true), (37, .int .i64 p.h), (38, .int .i64 (yv : Int))] (.cons (d := 0) rfl (.cons (d := 3) rfl (.cons (d := 5) rfl (.cons (d := 6) rfl (.cons (d := 11) rfl (.cons (d := 12) rfl (.cons (d := 14) rfl (.cons (d := 15) rfl (.cons (d := 16) rfl (.cons (d := 37) rfl (.cons (d := 38) rfl (.nil _)))))))))))) ?_
   refine bS (M := Rb :: Row U5 s.pa s.na s.ca s.A :: ao b5 26 [.int .i64 h.w, .int .i64 h.h, .slice q n c] :: ao b6 145 [.int .i64 p.x, .int .i64 p.y, .int .i64 p.dx, .int .i64 p.dy, .int .i64 p.w, .int .i64 p.h] :: ao bf 90 [.int .i64 h.w, .int .i64 h.h, .int .i64 h.dep, .int .i64 h.ax, .bool h.cA, .slice pp pl.length cp, .slice pt tr.length ct, .slice pd nd cd, .slice pk (aa.bD h tr).length ck] :: Row (aP 62 .u16) q n c s.P :: Rk :: R :: Row U5 (jJ (y 10)).1 nr (jJ (y 10)).2 (aa.gk (Dt.getD s.a 0) ((Dt.drop (s.a + 1)).take nr) s.A back) :: F) (fun _ _ h => h) ?_
   refine bS (sub .nil (.keep (.skip (.keep (.keep (.keep (.keep (.keep (.keep (.keep .refl)))))))))) ?_
   simp only [List.nil_append]
   generalize (jJ (y 10)).1 = q15
   generalize (jJ (y 10)).2 = c15
   refine rC dh 7 rfl ?_
   refine ag rfl ?_
   refine oV (bG V.ek rfl bW (vs := [_, _, _]) rfl rfl) ?_
   refine ag rfl ?_
   refine oV (bG V.a145 rfl dJ (vs := [_, _, _, _, _, _]) rfl rfl) ?_
   refine rO dh 2 rfl ?_
   refine ag rfl ?_
   refine ai (KA h bf pp pl cp pt tr ct pd nd cd pk ck R hP hT hcp hB hBt hpl htl Rk hRk hf hs q n c hn hcap s.P hPl p hp yv hyh q15 c15 (aa.gk (Dt.getD s.a 0) ((Dt.drop (s.a + 1)).take nr) s.A back) (by rw [hUl]; omega) (aa.uL ..) (Row U5 q15 nr c15 (aa.gk (Dt.getD s.a 0) ((Dt.drop (s.a + 1)).take nr) s.A back)) (fun _ _ hh => by rw [hUl]; exact hh.rd) (by rw [hUl]; exact aa.wv (by omega) (by omega) hnr) nr hUl P2 hr) V.MZ  rfl (.cons dI (.cons dI (.cons dI (.cons ig (.cons dI .nil))))) rfl ?_
   rintro _ _ ⟨hP2, rfl, rfl⟩
   refine rO dh 7 rfl ?_
   refine oF V.mixed (by kernel_rfl) ?_
   refine rR dh 3 rfl ?_
   refine oR (cK (v := .int .i64 ((nr + 1 : Nat) : Int)) (du (r := 1 + (nr : Int)) rfl rfl wI) (congrArg (Value.int .i64) (by omega))) ?_
   refine oR (dX (nr + 1) (Dt.length - s.a) s.cz V.bY rfl ⟨_, rfl⟩ ⟨rfl, rfl⟩ rfl (by omega) (by omega) (by omega)) ?_
   refine rR dh 2 rfl ?_
   refine Rg.cW ?_
   refine Nu dh 6 rfl (by omega) ?_
   rw [show Dt.length - s.a - (nr + 1) = Dt.length - (s.a + 1 + nr) from by omega]
   exact j2 (yv + 1) ⟨s.a + 1 + nr, eo s.pz (nr + 1) s.cz 1, s.cz - (nr + 1), q15, nr, c15, (aa.gk (Dt.getD s.a 0) ((Dt.drop (s.a + 1)).take nr) s.A back), P2⟩ ⟨⟨by omega, by show s.a + 1 + nr = _; rw [Nat.add_mul, Nat.one_mul]; omega, hP2, hUl, .inr rfl, aa.uL .., (fun w0 h hh => by have := gW (c := U5) hz hdl (nr + 1) s.cz (by omega) hcz w0 h hh; rw [List.drop_drop] at this; rwa [show Dt.length - s.a - (nr + 1) = Dt.length - (s.a + 1 + nr) by omega, show s.a + (nr + 1) = s.a + 1 + nr by omega] at this), by show Dt.length - (s.a + 1 + nr) ≤ s.cz - (nr + 1); omega, aa.Ib hyh hk4 hr hres⟩, by omega⟩ (fo (dp ln)) (sub (.cons kb (.cons dI (.cons ig (.cons ig (nH .nil))))) aw)
 ·refine rC dh 13 rfl ?_
  have hyE : yv = p.h.toNat := by omega
  exact ak (fD rfl rfl) (.inr ⟨s.a, s.P, s.pz, s.cz, aa.Ik (by omega) hres, hPl, by rw [ha, hyE], hz, hcz, rfl, rfl⟩) (sub (.cons ig (.cons ig (.cons ig (ar (.cons dI .nil))))) n8)
end Go.Proofs.YtmaiakpjgomnpaaGreat
namespace Go.Proofs.YtmaiakpjgomnpaaGreat
open Go.Sl
theorem V.zg : aH Tryz.prog 17 = true := by kernel_rfl
theorem V.zV : aH Tryz.prog 37 = true := by kernel_rfl
theorem V.BW : aH Tryz.prog 38 = true := by kernel_rfl
theorem V.M3 : aH Tryz.prog 39 = true := by kernel_rfl
theorem V.JK : aH Tryz.prog 40 = true := by kernel_rfl
theorem V.Pu : aH Tryz.prog 41 = true := by kernel_rfl
theorem V.Ru : aH Tryz.prog 42 = true := by kernel_rfl
theorem V.Rc : aH Tryz.prog 81 = true := by kernel_rfl
theorem V.RS : aH Tryz.prog 82 = true := by kernel_rfl
theorem V.Q4 : aH Tryz.prog 83 = true := by kernel_rfl
theorem V.Q0 : aH Tryz.prog 84 = true := by kernel_rfl
theorem V.Rj : aH Tryz.prog 85 = true := by kernel_rfl
theorem V.Pj : aH Tryz.prog 86 = true := by kernel_rfl
end Go.Proofs.YtmaiakpjgomnpaaGreat
namespace Go.Proofs.YtmaiakpjgomnpaaGreat
open Go.Sl 
theorem aZ : dU Tryz.prog ⟨[22, 140], [(35, 4, 4), (88, 1, 1), (90, 0, 0), (90, 3, 7)]⟩ = true := by kernel_rfl
attribute [local irreducible] aj.au aa.bR aa.cZ aa.deep aa.parts HW aa.bD aa.gw aa.gO aa.fh aa.l8 aa.kZ aa.gk aa.fk aa.fG aa.mj aa.want aa.bb aa.lN aa.nX aa.nW aa.j6 aJ.m7 aa.bQ aa.a7 aa.bA aa.bV aa.cS aa.fc aa.jC aa.jK aa.c4 aa.dG aa.cut aa.ei aa.pD
theorem Iy (h : aa.Hd) (bf : Nat) (pp : Option Addr) (pl : List Int) (cp : Nat) (pt : Option Addr) (tr : List Int) (ct : Nat) (pd : Option Addr) (nd cd : Nat) (pk : Option Addr) (ck : Nat) (R : ad) (hP : ∀ w0 h, R w0 h → aS U5 pp pl.length pl w0 h) (hT : ∀ w0 h, R w0 h → aS U5 pt tr.length tr w0 h) (hcp : pl.length ≤ cp) (hB : aj.au pl) (hBt : aj.au tr) (hpl : pl.length < 500000000) (htl : tr.length < 500000000) (Rk : ad) (hRk : ∀ w0 h_, Rk w0 h_ → aS (aP 3 .i64) pk (aa.bD h tr).length (aa.bD h tr) w0 h_) (hf : aa.gw ⟨h, pl, tr⟩) (hs : aa.bR h.w h.h = 0) (q : Option Addr) (n c : Nat) (hn : (n : Int) = 4 * h.w * h.h) (hcap : n ≤ c) (c5 : List Int) (hpx0 : c5.length = n) (p : aa.Ps) (hp : aa.kZ p h.w h.h) (Dt : List Int) (hDB : aj.au Dt) (hDl : Dt.length < 500000000) (nr : Nat) (hnr : (nr : Int) = aa.fk p.w (aa.parts h.ax * h.dep)) (back : Nat) (hback : (back : Int) = max 1 ((aa.parts h.ax * h.dep) / 8)) (at0 : Nat) (hat : at0 + p.h.toNat * (1 + nr) ≤ Dt.length) (pb : Option Addr) (cb : Nat) (Rb : ad) (hRb : ∀ w0 h, Rb w0 h → aS U5 pb (Dt.length - at0) (Dt.drop at0) w0 h) (hcb : Dt.length - at0 ≤ cb) (hr : aa.fh ⟨h, pl, tr⟩ Dt nr back p p.h.toNat 0 at0 [] c5 = none) : aG Tryz.prog 86 [.pointer (some ⟨bf, 0, none⟩), .agg #[.int .i64 h.w, .int .i64 h.h, .slice q n c], .agg #[.int .i64 p.x, .int .i64 p.y, .int .i64 p.dx, .int .i64 p.dy, .int .i64 p.w, .int .i64 p.h], .slice pb (Dt.length - at0) cb] [ao bf 90 [.int .i64 h.w, .int .i64 h.h, .int .i64 h.dep, .int .i64 h.ax, .bool h.cA, .slice pp pl.length cp, .slice pt tr.length ct, .slice pd nd cd, .slice pk (aa.bD h tr).length ck], Row (aP 62 .u16) q n c c5, Rk, Rb, R] (aQ fun v G => v = .tuple #[.slice none 0 0, .bool false] ∧ ∃ P, P.length = n ∧ G = [ao bf 90 [.int .i64 h.w, .int .i64 h.h, .int .i64 h.dep, .int .i64 h.ax, .bool h.cA, .slice pp pl.length cp, .slice pt tr.length ct, .slice pd nd cd, .slice pk (aa.bD h tr).length ck], Row (aP 62 .u16) q n c P, Rk, Rb, R]) := by
 refine (Dp h bf pp pl cp pt tr ct pd nd cd pk ck R hP hT hcp hB hBt hpl htl Rk hRk hf hs q n c hn hcap c5 hpx0 p hp Dt hDB hDl nr hnr back hback at0 hat pb cb Rb hRb hcb).mono ?_
 rintro e2 G ⟨v, rfl, (⟨_, rfl, P, h1, rfl⟩ | ⟨a, P, z, cz, h, _⟩)⟩
 ·exact ⟨_, rfl, rfl, P, h1, rfl⟩
 ·rw [hr] at h; cases h
theorem Ja (h : aa.Hd) (bf : Nat) (pp : Option Addr) (pl : List Int) (cp : Nat) (pt : Option Addr) (tr : List Int) (ct : Nat) (pd : Option Addr) (nd cd : Nat) (pk : Option Addr) (ck : Nat) (R : ad) (hP : ∀ w0 h, R w0 h → aS U5 pp pl.length pl w0 h) (hT : ∀ w0 h, R w0 h → aS U5 pt tr.length tr w0 h) (hcp : pl.length ≤ cp) (hB : aj.au pl) (hBt : aj.au tr) (hpl : pl.length < 500000000) (htl : tr.length < 500000000) (Rk : ad) (hRk : ∀ w0 h_, Rk w0 h_ → aS (aP 3 .i64) pk (aa.bD h tr).length (aa.bD h tr) w0 h_) (hf : aa.gw ⟨h, pl, tr⟩) (hs : aa.bR h.w h.h = 0) (q : Option Addr) (n c : Nat) (hn : (n : Int) = 4 * h.w * h.h) (hcap : n ≤ c) (c5 : List Int) (hpx0 : c5.length = n) (p : aa.Ps) (hp : aa.kZ p h.w h.h) (Dt : List Int) (hDB : aj.au Dt) (hDl : Dt.length < 500000000) (nr : Nat) (hnr : (nr : Int) = aa.fk p.w (aa.parts h.ax * h.dep)) (back : Nat) (hback : (back : Int) = max 1 ((aa.parts h.ax * h.dep) / 8)) (at0 : Nat) (hat : at0 + p.h.toNat * (1 + nr) ≤ Dt.length) (pb : Option Addr) (cb : Nat) (Rb : ad) (hRb : ∀ w0 h, Rb w0 h → aS U5 pb (Dt.length - at0) (Dt.drop at0) w0 h) (hcb : Dt.length - at0 ≤ cb) (a2 : Nat) (P2 : List Int) (hr : aa.fh ⟨h, pl, tr⟩ Dt nr back p p.h.toNat 0 at0 [] c5 = some (a2, P2)) : aG Tryz.prog 86 [.pointer (some ⟨bf, 0, none⟩), .agg #[.int .i64 h.w, .int .i64 h.h, .slice q n c], .agg #[.int .i64 p.x, .int .i64 p.y, .int .i64 p.dx, .int .i64 p.dy, .int .i64 p.w, .int .i64 p.h], .slice pb (Dt.length - at0) cb] [ao bf 90 [.int .i64 h.w, .int .i64 h.h, .int .i64 h.dep, .int .i64 h.ax, .bool h.cA, .slice pp pl.length cp, .slice pt tr.length ct, .slice pd nd cd, .slice pk (aa.bD h tr).length ck], Row (aP 62 .u16) q n c c5, Rk, Rb, R] (aQ fun v G => ∃ pz cz, P2.length = n ∧ a2 = at0 + p.h.toNat * (1 + nr) ∧ (∀ w0 h, Rb w0 h → aS U5 pz (Dt.length - a2) (Dt.drop a2) w0 h) ∧ Dt.length - a2 ≤ cz ∧ v = .tuple #[.slice pz (Dt.length - a2) cz, .bool true] ∧ G = [ao bf 90 [.int .i64 h.w, .int .i64 h.h, .int .i64 h.dep, .int .i64 h.ax, .bool h.cA, .slice pp pl.length cp, .slice pt tr.length ct, .slice pd nd cd, .slice pk (aa.bD h tr).length ck], Row (aP 62 .u16) q n c P2, Rk, Rb, R]) := by
 refine (Dp h bf pp pl cp pt tr ct pd nd cd pk ck R hP hT hcp hB hBt hpl htl Rk hRk hf hs q n c hn hcap c5 hpx0 p hp Dt hDB hDl nr hnr back hback at0 hat pb cb Rb hRb hcb).mono ?_
 rintro e2 G ⟨v, rfl, (⟨h, _⟩ | ⟨a, P, z, cz, h, h1, h2, h3, h4, rfl, rfl⟩)⟩
 ·rw [hr] at h; cases h
 ·rw [hr] at h; cases h; exact ⟨_, rfl, z, cz, h1, h2, h3, h4, rfl, rfl⟩
theorem Mh (w h : Int) (hs : aa.bR w h = 0) : aG Tryz.prog 85 [.int .i64 w, .int .i64 h] [] (aQ fun v G => ∃ b : Nat, v = .tuple #[.agg #[.int .i64 w, .int .i64 h, .slice (some ⟨b, 0, none⟩) ((4 * w * h).toNat) ((4 * w * h).toNat)], .int .i64 0] ∧ G = [Row (aP 62 .u16) (some ⟨b, 0, none⟩) ((4 * w * h).toNat) ((4 * w * h).toNat) (List.replicate ((4 * w * h).toNat) 0)]) := by
 refine (OW w h).mono ?_
 rintro e2 G ⟨v, rfl, (⟨h1, _⟩ | ⟨_, b, rfl, rfl⟩)⟩
 ·exact absurd hs h1
 ·exact ⟨_, rfl, b, rfl, rfl⟩
set_option maxHeartbeats 8000000 in
theorem J9 (h : aa.Hd) (bf : Nat) (pp : Option Addr) (pl : List Int) (cp : Nat) (pt : Option Addr) (tr : List Int) (ct : Nat) (pd : Option Addr) (cd : Nat) (pk : Option Addr) (ck : Nat) (R : ad) (hP : ∀ w0 h, R w0 h → aS U5 pp pl.length pl w0 h) (hT : ∀ w0 h, R w0 h → aS U5 pt tr.length tr w0 h) (hcp : pl.length ≤ cp) (hB : aj.au pl) (hBt : aj.au tr) (hpl : pl.length < 500000000) (htl : tr.length < 500000000) (Rk : ad) (hRk : ∀ w0 h_, Rk w0 h_ → aS (aP 3 .i64) pk (aa.bD h tr).length (aa.bD h tr) w0 h_) (hf : aa.gw ⟨h, pl, tr⟩) (hs : aa.bR h.w h.h = 0) (Z : List Int) (hZB : aj.au Z) (hZl : Z.length < 500000000) (hcd : Z.length ≤ cd) (Rd : ad) (hRd : ∀ w0 h, Rd w0 h → aS U5 pd Z.length Z w0 h) (z : List Int × Int) (hz : aJ.m7 Z (aa.want h) z) : aG Tryz.prog 42 [.pointer (some ⟨bf, 0, none⟩)] [ao bf 90 [.int .i64 h.w, .int .i64 h.h, .int .i64 h.dep, .int .i64 h.ax, .bool h.cA, .slice pp pl.length cp, .slice pt tr.length ct, .slice pd Z.length cd, .slice pk (aa.bD h tr).length ck], Rk, Rd, R] (aQ fun v G => ∃ q n c, v = .tuple #[.agg #[.int .i64 (aa.mj ⟨h, pl, tr⟩ z).1.w, .int .i64 (aa.mj ⟨h, pl, tr⟩ z).1.h, .slice q n c], .int .i64 (aa.mj ⟨h, pl, tr⟩ z).2] ∧ (aa.mj ⟨h, pl, tr⟩ z).1.c5.length = n ∧ n ≤ c ∧ G = [Row (aP 62 .u16) q n c (aa.mj ⟨h, pl, tr⟩ z).1.c5]) := by
 refine av [(0, _)] Tryz.func42 rfl Tryz.ntmps42 rfl rfl ?_
 intro w0 F
 have hde : aa.deep h.ax h.dep := by unfold aa.gw at hf; exact hf.1
 have hpc := aa.ij hde
 have hdi := aa.jR (aa.iD hde)
 have hbits := aa.my hde
 have hsd := aa.ke hs
 have hs4 := aa.qi hs
 have hps := aa.kR hs
 have hwi := aa.HX hs hde
 have hzbl := aa.Jx hZB hwi.2 hz
 have hzB := hzbl.1
 have hzl := hzbl.2
 have hwn := aa.Bj hs hde
 refine rT aZ 2 rfl ?_
 refine cC V.kJ rfl ?_
 intro b2
 refine rO aZ 4 rfl ?_
 refine ly [pz 0 [] [0], pz 1 [0] [], pz 3 [1] [], pz 7 [2] [], pz 15 [3] [], pz 0 [] [0], pz 32 [5] [], pz 96 [6] [], pz 224 [7] [], pz 480 [8] [], pz 1023 [4, 9] [], pz 2047 [10] []] [⟨fun y => ao b2 26 [.int .i64 0, .int .i64 0, .slice none 0 0], none, none, []⟩, ⟨fun y => ao bf 90 [.int .i64 h.w, .int .i64 h.h, .int .i64 h.dep, .int .i64 h.ax, .bool h.cA, .slice pp pl.length cp, .slice pt tr.length ct, .slice pd Z.length cd, .slice pk (aa.bD h tr).length ck], none, none, [4, 9]⟩, ⟨fun y => Rk, none, none, []⟩, ⟨fun y => Rd, none, none, []⟩, ⟨fun y => R, none, none, []⟩, ⟨fun y => Row PK (gn (y 10)) (aa.whole h.w h.h).length (iJ (y 10)) (aa.whole h.w h.h), some 10, none, []⟩] F V.mixed (by kernel_rfl) rfl (fun _ => .refl _) (cn _ (cn _ (cn _ (cn _ (cn _ (eB _ rfl (by intro y y2 h; simp only [h 10 (.inl rfl)]) ir)))))) ?_
 refine nM ?_
 refine nN ?_
 refine nG V.iG ?_
 refine nG V.Al ?_
 refine nR (fun y FF hA => ae V.s3 rfl an rfl) ?_
 refine nM ?_
 refine nN ?_
 refine nG V.iG ?_
 refine nG V.ug ?_
 refine nR (fun y FF hA => ae V.s3 rfl an rfl) ?_
 refine gU (fun y v => .slice (gn v) (aa.whole h.w h.h).length (iJ v)) (fun y v => True) _ _ (fun y v => [Row PK (gn v) (aa.whole h.w h.h).length (iJ v) (aa.whole h.w h.h)]) _ (fun y => rfl) (fun y => rfl) (fun y => rfl) (fun y => rfl) (fun y FF hA => ve (Hy h.w h.h hs) V.Rc rfl .nil) (by intros; rfl) (by intros; rfl) (by intros; rfl) (by intro y y2 h; simp only [h 10 (.inl rfl)]) (by intro y y2 h; rfl) ?_
 refine bU _ (fun y => rfl) rfl rfl rfl (fun y hA L => dC (eZ rfl) ⟨rfl, rfl⟩) (by intros; rfl) (by intro y y2 h; simp only [h 10 (.inr (by decide))]) ?_
 refine aX ?_
 intro y hA
 clear hA
 refine bN ?_
 refine cu [(0, .pointer (some ⟨bf, 0, none⟩)), (2, .pointer (some ⟨b2, 0, none⟩)), (4, .slice (gn (y 10)) (aa.whole h.w h.h).length (iJ (y 10)))] (.cons (d := 0) rfl (.cons (d := 2) rfl (.cons (d := 4) rfl (.nil _)))) ?_
 refine bS (M := ao b2 26 [.int .i64 0, .int .i64 0, .slice none 0 0] :: ao bf 90 [.int .i64 h.w, .int .i64 h.h, .int .i64 h.dep, .int .i64 h.ax, .bool h.cA, .slice pp pl.length cp, .slice pt tr.length ct, .slice pd Z.length cd, .slice pk (aa.bD h tr).length ck] :: Rk :: Rd :: R :: Row PK (gn (y 10)) (aa.whole h.w h.h).length (iJ (y 10)) (aa.whole h.w h.h) :: F) (fun _ _ h => h) ?_
 generalize (gn (y 10)) = pw
 generalize (iJ (y 10)) = cw
 refine zW (fun (pa : Option Addr) (ca : Nat) => [(0, .pointer (some ⟨bf, 0, none⟩)), (2, .pointer (some ⟨b2, 0, none⟩)), (4, .slice pa (aa.bb h).length ca)]) (fun (pa : Option Addr) (ca : Nat) => Row PK pa (aa.bb h).length ca (aa.bb h) :: ao b2 26 [.int .i64 0, .int .i64 0, .slice none 0 0] :: ao bf 90 [.int .i64 h.w, .int .i64 h.h, .int .i64 h.dep, .int .i64 h.ax, .bool h.cA, .slice pp pl.length cp, .slice pt tr.length ct, .slice pd Z.length cd, .slice pk (aa.bD h tr).length ck] :: Rk :: Rd :: R :: F) (fun (pa : Option Addr) (ca : Nat) => True) ?_ ?_
 ·rcases (aa.tf h.cA) with hl1 | hl2
  ·refine rL aZ 6 rfl ?_
   refine oV (cK (v := .bool true) (ae V.s4 rfl bW rfl) (congrArg Value.bool hl1)) ?_
   refine rO aZ 3 rfl ?_
   refine ly [pz 0 [] [0], pz 1 [0] [], pz 3 [1] [], pz 7 [2] [], pz 15 [3] [], pz 0 [] [0], pz 32 [5] [], pz 96 [6] [], pz 224 [7] [], pz 480 [8] [], pz 1023 [4, 9] [], pz 2047 [10] []] [⟨fun y => ao b2 26 [.int .i64 0, .int .i64 0, .slice none 0 0], none, none, []⟩, ⟨fun y => ao bf 90 [.int .i64 h.w, .int .i64 h.h, .int .i64 h.dep, .int .i64 h.ax, .bool h.cA, .slice pp pl.length cp, .slice pt tr.length ct, .slice pd Z.length cd, .slice pk (aa.bD h tr).length ck], none, none, [4, 9]⟩, ⟨fun y => Rk, none, none, []⟩, ⟨fun y => Rd, none, none, []⟩, ⟨fun y => R, none, none, []⟩, ⟨fun y => Row PK pw (aa.whole h.w h.h).length cw (aa.whole h.w h.h), none, none, []⟩, ⟨fun y => Row PK (gn (y 10)) (aa.gq h.w h.h).length (iJ (y 10)) (aa.gq h.w h.h), some 10, none, []⟩] F V.mixed (by kernel_rfl) rfl (fun _ => .refl _) (cn _ (cn _ (cn _ (cn _ (cn _ (cn _ (eB _ rfl (by intro y y2 h; simp only [h 10 (.inl rfl)]) ir))))))) ?_
   refine nM ?_
   refine nN ?_
   refine nG V.iG ?_
   refine nG V.Al ?_
   refine nR (fun y FF hA => ae V.s3 rfl an rfl) ?_
   refine nM ?_
   refine nN ?_
   refine nG V.iG ?_
   refine nG V.ug ?_
   refine nR (fun y FF hA => ae V.s3 rfl an rfl) ?_
   refine gU (fun y v => .slice (gn v) (aa.gq h.w h.h).length (iJ v)) (fun y v => True) _ _ (fun y v => [Row PK (gn v) (aa.gq h.w h.h).length (iJ v) (aa.gq h.w h.h)]) _ (fun y => rfl) (fun y => rfl) (fun y => rfl) (fun y => rfl) (fun y FF hA => ve (ED h.w h.h hs) V.RS rfl .nil) (by intros; rfl) (by intros; rfl) (by intros; rfl) (by intro y y2 h; simp only [h 10 (.inl rfl)]) (by intro y y2 h; rfl) ?_
   refine bU _ (fun y => rfl) rfl rfl rfl (fun y hA L => dC (eZ rfl) ⟨rfl, rfl⟩) (by intros; rfl) (by intro y y2 h; simp only [h 10 (.inr (by decide))]) ?_
   refine aX ?_
   intro y hA
   clear hA
   show iI _ _ _ _ (ao b2 26 [.int .i64 0, .int .i64 0, .slice none 0 0] :: ao bf 90 [.int .i64 h.w, .int .i64 h.h, .int .i64 h.dep, .int .i64 h.ax, .bool h.cA, .slice pp pl.length cp, .slice pt tr.length ct, .slice pd Z.length cd, .slice pk (aa.bD h tr).length ck] :: Rk :: Rd :: R :: Row PK pw (aa.whole h.w h.h).length cw (aa.whole h.w h.h) :: Row PK (gn (y 10)) (aa.gq h.w h.h).length (iJ (y 10)) (aa.gq h.w h.h) :: F)
   (rw [show (aa.gq h.w h.h) = (aa.bb h) from aa.A8 hl1]; exact j2 _ _ trivial (js ln) (sub (.cons oo (pF .nil)) cD))
  ·refine rL aZ 6 rfl ?_
   refine oV (cK (v := .bool false) (ae V.s4 rfl bW rfl) (congrArg Value.bool hl2)) ?_
   refine rO aZ 4 rfl ?_
   (rw [show (aa.whole h.w h.h) = (aa.bb h) from aa.AW hl2]; exact j2 _ _ trivial (js ln) (sub (.cons kb (pF .nil)) aw))
 ·intro pa ca
  rintro -
  refine rC aZ 1 rfl ?_
  refine wN [pz 0 [] [4], pz 0 [] [0], pz 2 [1] [], pz 6 [2] [], pz 14 [3] [], pz 30 [4] [], pz 62 [5] [], pz 0 [] [0], pz 128 [7] [], pz 384 [8] [], pz 896 [9] [], pz 1920 [10] [], pz 4094 [6, 11] [], pz 8191 [0, 12] [], pz 16383 [13] []] [⟨fun y => Row PK pa (aa.bb h).length ca (aa.bb h), none, none, [13]⟩, ⟨fun y => ao b2 26 [.int .i64 0, .int .i64 0, .slice none 0 0], none, none, []⟩, ⟨fun y => ao bf 90 [.int .i64 h.w, .int .i64 h.h, .int .i64 h.dep, .int .i64 h.ax, .bool h.cA, .slice pp pl.length cp, .slice pt tr.length ct, .slice pd Z.length cd, .slice pk (aa.bD h tr).length ck], none, none, [5, 11]⟩, ⟨fun y => Rk, none, none, []⟩, ⟨fun y => Rd, none, none, []⟩, ⟨fun y => R, none, none, []⟩] F V.mixed ?_
  iterate 2 refine nM ?_
  refine nN ?_
  refine nG V.iG ?_
  refine nG V.qW ?_
  refine nR (fun y FF hA => ae V.s3 rfl an rfl) ?_
  refine nE (fun y FF hA => bO (Post := []) (iT h.ax) V.pH rfl .nil (fun v G h => by rcases h with ⟨rfl, rfl⟩; exact ⟨rfl, .refl _⟩)) ?_
  refine nM ?_
  refine nN ?_
  refine nG V.iG ?_
  refine nG V.mb ?_
  refine nR (fun y FF hA => ae V.s3 rfl an rfl) ?_
  refine nV (fun y hA L => jv (r := (aa.parts h.ax * h.dep)) rfl rfl wI) ?_
  refine nE (fun y FF hA => bO (Post := [Row PK pa (aa.bb h).length ca (aa.bb h)]) (HL pa ca (aa.bb h) (aa.parts h.ax * h.dep) (Row PK pa (aa.bb h).length ca (aa.bb h)) (fun _ _ hh => hh.rd) hps.2 (fun p hp => (hps.1 p hp).2.1) ⟨by omega, by omega⟩) V.Q4 rfl (ar .nil) (fun v G hh => by rcases hh with ⟨rfl, rfl⟩; exact ⟨congrArg (Value.int .i64) (aa.H8 h), .refl _⟩)) ?_
  refine nA ?_
  refine aX ?_
  intro y hA
  clear hA
  refine bN ?_
  refine cu [(0, .pointer (some ⟨bf, 0, none⟩)), (2, .pointer (some ⟨b2, 0, none⟩)), (4, .slice pa (aa.bb h).length ca), (5, .int .i64 (aa.want h))] (.cons (d := 0) rfl (.cons (d := 2) rfl (.cons (d := 4) rfl (.cons (d := 5) rfl (.nil _))))) ?_
  refine bS (M := Row PK pa (aa.bb h).length ca (aa.bb h) :: ao b2 26 [.int .i64 0, .int .i64 0, .slice none 0 0] :: ao bf 90 [.int .i64 h.w, .int .i64 h.h, .int .i64 h.dep, .int .i64 h.ax, .bool h.cA, .slice pp pl.length cp, .slice pt tr.length ct, .slice pd Z.length cd, .slice pk (aa.bD h tr).length ck] :: Rk :: Rd :: R :: F) (fun _ _ h => h) ?_
  refine rC aZ 5 rfl ?_
  refine oV (ae V.eC rfl dJ rfl) ?_
  refine oV (aK rfl) ?_
  refine ai (LU pd cd Z Rd hRd hcd hZl hZB (aa.want h) hwi.2 z hz) V.Q0  rfl (.cons ig .nil) rfl ?_
  rintro _ _ ⟨qz, cqz, rfl, rfl⟩
  refine rO aZ 9 rfl ?_
  rcases (aa.QA ⟨h, pl, tr⟩ z) with ⟨h1, hw_⟩ | ⟨h1, h2, hw_⟩ | ⟨h1, h2⟩
  ·refine rC aZ 3 rfl ?_
   refine oV (aW (cx rfl rfl) h1) ?_
   refine rO aZ 6 rfl ?_
   refine oV (cB V.mH V.kJ rfl (cs := [_, _, _]) rfl) ?_
   refine oV (aK rfl) ?_
   refine aU (aF V.ek rfl rfl (us := [_, _, _]) rfl rfl (by exact wH) (by exact Nat.le_of_ble_eq_true rfl) rfl) ?_
   refine rO aZ 6 rfl ?_
   rw [hw_]
   exact ak (e9 V.ek rfl eG rfl rfl) ⟨none, 0, 0, rfl, rfl, Nat.le_refl _, rfl⟩ ((ej (A := Row (aP 62 .u16) none 0 0 []) (fun w0 => Row.nil _ _ _)).trans (sub (ar .nil) Gu))
  ·refine rC aZ 3 rfl ?_
   refine oV (aA (cx rfl rfl) h1) ?_
   refine rO aZ 9 rfl ?_
   refine oV (aW (bu rfl rfl) h2) ?_
   refine rO aZ 6 rfl ?_
   refine oV (cB V.mH V.kJ rfl (cs := [_, _, _]) rfl) ?_
   refine aU (aF V.ek rfl rfl (us := [_, _, _]) rfl rfl (by exact wH) (by exact Nat.le_of_ble_eq_true rfl) rfl) ?_
   refine rO aZ 6 rfl ?_
   rw [hw_]
   exact ak (e9 V.ek rfl eG rfl rfl) ⟨none, 0, 0, rfl, rfl, Nat.le_refl _, rfl⟩ ((ej (A := Row (aP 62 .u16) none 0 0 []) (fun w0 => Row.nil _ _ _)).trans (sub (ar .nil) Gu))
  ·refine rC aZ 3 rfl ?_
   refine oV (aA (cx rfl rfl) h1) ?_
   refine rO aZ 9 rfl ?_
   refine oV (aA (bu rfl rfl) h2) ?_
   refine rO aZ 8 rfl ?_
   refine gY (fun w hi => fM hi (show Row U5 qz z.1.length cqz z.1 ∈ _ by exact an)) (fun hcz0 => ?_)
   refine ly [pz 0 [] [0], pz 1 [0] [], pz 3 [1] [], pz 7 [2] [], pz 15 [3] [], pz 0 [] [0], pz 32 [5] [], pz 96 [6] [], pz 224 [7] [], pz 480 [8] [], pz 1023 [4, 9] [], pz 2047 [10] [], pz 4095 [11] [], pz 4095 [11] [], pz 0 [] [], pz 24575 [14, 12] [], pz 65535 [13] []] [⟨fun y => Row U5 qz z.1.length cqz z.1, none, none, []⟩, ⟨fun y => Rd, none, none, []⟩, ⟨fun y => Row PK pa (aa.bb h).length ca (aa.bb h), none, none, []⟩, ⟨fun y => ao b2 26 [.int .i64 0, .int .i64 0, .slice none 0 0], none, none, []⟩, ⟨fun y => ao bf 90 [.int .i64 h.w, .int .i64 h.h, .int .i64 h.dep, .int .i64 h.ax, .bool h.cA, .slice pp pl.length cp, .slice pt tr.length ct, .slice pd Z.length cd, .slice pk (aa.bD h tr).length ck], none, none, [4, 9]⟩, ⟨fun y => Rk, none, none, []⟩, ⟨fun y => R, none, none, []⟩, ⟨fun y => Row (aP 62 .u16) (some ⟨vp (y 10), 0, none⟩) ((4 * h.w * h.h).toNat) ((4 * h.w * h.h).toNat) (List.replicate ((4 * h.w * h.h).toNat) 0), some 10, none, []⟩, ⟨fun y => ao (gC (y 14)) 26 [.int .i64 0, .int .i64 0, .slice none 0 0], some 14, some 15, []⟩, ⟨fun y => ao (gC (y 14)) 26 [.int .i64 h.w, .int .i64 h.h, .slice (some ⟨vp (y 10), 0, none⟩) ((4 * h.w * h.h).toNat) ((4 * h.w * h.h).toNat)], some 15, none, []⟩] F V.mixed (by kernel_rfl) rfl (fun _ => .refl _) (cn _ (cn _ (cn _ (cn _ (cn _ (cn _ (cn _ (eB _ rfl (by intro y y2 h; simp only [h 10 (.inl rfl)]) (eB _ rfl (by intro y y2 h; simp only [h 14 (.inl rfl)]) (eB _ rfl (by intro y y2 h; simp only [h 10 (.inr (by decide)), h 14 (.inr (by decide))]) ir)))))))))) ?_
   refine nM ?_
   refine nN ?_
   refine nG V.iG ?_
   refine nG V.Al ?_
   refine nR (fun y FF hA => ae V.s3 rfl an rfl) ?_
   refine nM ?_
   refine nN ?_
   refine nG V.iG ?_
   refine nG V.ug ?_
   refine nR (fun y FF hA => ae V.s3 rfl an rfl) ?_
   refine gU (fun y v => .tuple #[.agg #[.int .i64 h.w, .int .i64 h.h, .slice (some ⟨vp v, 0, none⟩) ((4 * h.w * h.h).toNat) ((4 * h.w * h.h).toNat)], .int .i64 0]) (fun y v => True) _ _ (fun y v => [Row (aP 62 .u16) (some ⟨vp v, 0, none⟩) ((4 * h.w * h.h).toNat) ((4 * h.w * h.h).toNat) (List.replicate ((4 * h.w * h.h).toNat) 0)]) _ (fun y => rfl) (fun y => rfl) (fun y => rfl) (fun y => rfl) (fun y FF hA => sI (α := Nat) (fun b => .tuple #[.agg #[.int .i64 h.w, .int .i64 h.h, .slice (some ⟨b, 0, none⟩) ((4 * h.w * h.h).toNat) ((4 * h.w * h.h).toNat)], .int .i64 0]) vp (fun b => [Row (aP 62 .u16) (some ⟨b, 0, none⟩) ((4 * h.w * h.h).toNat) ((4 * h.w * h.h).toNat) (List.replicate ((4 * h.w * h.h).toNat) 0)]) (Mh h.w h.h hs) (fun a => rfl) V.Rj rfl .nil) (by intros; rfl) (by intros; rfl) (by intros; rfl) (by intro y y2 h; simp only [h 10 (.inl rfl)]) (by intro y y2 h; rfl) ?_
   refine bU _ (fun y => rfl) rfl rfl rfl (fun y hA L => dC (aK rfl) ⟨rfl, rfl⟩) (by intros; rfl) (by intro y y2 h; simp only [h 10 (.inr (by decide))]) ?_
   refine bU _ (fun y => rfl) rfl rfl rfl (fun y hA L => dC (fz rfl rfl) ⟨rfl, rfl⟩) (by intros; rfl) (by intro y y2 h; simp only [h 10 (.inr (by decide))]) ?_
   refine nV (fun y hA L => fz rfl rfl) ?_
   refine gU (fun y v => .pointer (some ⟨gC v, 0, none⟩)) (fun y v => True) _ _ (fun y v => [ao (gC v) 26 [.int .i64 0, .int .i64 0, .slice none 0 0]]) _ (fun y => rfl) (fun y => rfl) (fun y => rfl) (fun y => rfl) (fun y FF hA => vr (uV V.kJ)) (by intros; rfl) (by intros; rfl) (by intros; rfl) (by intro y y2 h; simp only [h 14 (.inl rfl)]) (by intro y y2 h; rfl) ?_
   refine nE (fun y FF hA => dC (aF V.ek rfl rfl (us := [_, _, _]) rfl rfl (by exact cY) (by exact Nat.le_of_ble_eq_true rfl) rfl) ⟨rfl, .refl _⟩) ?_
   refine nA ?_
   refine aX ?_
   intro y hA
   clear hA
   refine bN ?_
   refine cu [(0, .pointer (some ⟨bf, 0, none⟩)), (2, .pointer (some ⟨b2, 0, none⟩)), (4, .slice pa (aa.bb h).length ca), (6, .slice qz z.1.length cqz), (8, .pointer (some ⟨(gC (y 14)), 0, none⟩))] (.cons (d := 0) rfl (.cons (d := 2) rfl (.cons (d := 4) rfl (.cons (d := 6) rfl (.cons (d := 8) rfl (.nil _)))))) ?_
   refine bS (M := Row U5 qz z.1.length cqz z.1 :: Rd :: Row PK pa (aa.bb h).length ca (aa.bb h) :: ao b2 26 [.int .i64 0, .int .i64 0, .slice none 0 0] :: ao bf 90 [.int .i64 h.w, .int .i64 h.h, .int .i64 h.dep, .int .i64 h.ax, .bool h.cA, .slice pp pl.length cp, .slice pt tr.length ct, .slice pd Z.length cd, .slice pk (aa.bD h tr).length ck] :: Rk :: R :: Row (aP 62 .u16) (some ⟨vp (y 10), 0, none⟩) ((4 * h.w * h.h).toNat) ((4 * h.w * h.h).toNat) (List.replicate ((4 * h.w * h.h).toNat) 0) :: ao (gC (y 14)) 26 [.int .i64 h.w, .int .i64 h.h, .slice (some ⟨vp (y 10), 0, none⟩) ((4 * h.w * h.h).toNat) ((4 * h.w * h.h).toNat)] :: F) (fun _ _ h => h) ?_
   generalize (vp (y 10)) = bq
   generalize (gC (y 14)) = b8
   refine rC aZ 14 rfl ?_
   rw [show List.replicate ((4 * h.w * h.h).toNat) 0 = aa.k6 h from by unfold aa.k6; rfl]
   obtain ⟨RES, hRES⟩ : ∃ r, r = aa.fG ⟨h, pl, tr⟩ z.1 (aa.bb h) 0 (aa.k6 h) := ⟨_, rfl⟩
   have h2w : ¬ (z.1.length : Int) < aa.want h := h2
   refine zG (fun (i : Nat) (a : Nat) (pz : Option Addr) (cz : Nat) (P : List Int) => [(0, .pointer (some ⟨bf, 0, none⟩)), (2, .pointer (some ⟨b2, 0, none⟩)), (6, .slice pz (z.1.length - a) cz), (8, .pointer (some ⟨b8, 0, none⟩)), (88, .slice pa (aa.bb h).length ca), (89, .int .i64 ((aa.bb h).length : Int)), (90, .int .i64 (i : Int))]) (fun (i : Nat) (a : Nat) (pz : Option Addr) (cz : Nat) (P : List Int) => ao b8 26 [.int .i64 h.w, .int .i64 h.h, .slice (some ⟨bq, 0, none⟩) ((4 * h.w * h.h).toNat) ((4 * h.w * h.h).toNat)] :: Row (aP 62 .u16) (some ⟨bq, 0, none⟩) ((4 * h.w * h.h).toNat) ((4 * h.w * h.h).toNat) P :: Row PK pa (aa.bb h).length ca (aa.bb h) :: Row U5 qz z.1.length cqz z.1 :: ao b2 26 [.int .i64 0, .int .i64 0, .slice none 0 0] :: ao bf 90 [.int .i64 h.w, .int .i64 h.h, .int .i64 h.dep, .int .i64 h.ax, .bool h.cA, .slice pp pl.length cp, .slice pt tr.length ct, .slice pd Z.length cd, .slice pk (aa.bD h tr).length ck] :: Rk :: Rd :: R :: F) (fun (i : Nat) (a : Nat) (pz : Option Addr) (cz : Nat) (P : List Int) => i ≤ (aa.bb h).length ∧ P.length = ((4 * h.w * h.h).toNat) ∧ a + aa.nW (aa.bitsOf h) ((aa.bb h).drop i) ≤ z.1.length ∧ (∀ w0 h, (Row U5 qz z.1.length cqz z.1) w0 h → aS U5 pz (z.1.length - a) (z.1.drop a) w0 h) ∧ z.1.length - a ≤ cz ∧ aa.fG ⟨h, pl, tr⟩ z.1 ((aa.bb h).drop i) a P = RES) (fun (i : Nat) (a : Nat) (pz : Option Addr) (cz : Nat) (P : List Int) => (aa.bb h).length - i) (i5 (0) (0) (qz) (cqz) (aa.k6 h) ?_ (kG (dp ln)) (sub (.cons O3 (.cons Dx (.cons bX (ar (.cons ay (.cons ay (.cons ay (.cons dQ (.cons dQ .nil))))))))) aw)) ?_
   ·exact ⟨Nat.zero_le _, List.length_replicate, by rw [List.drop_zero]; show 0 + _ ≤ _; omega, (fun _ _ hh => hh.rd), hcz0, hRES.symm⟩
   intro i a pz cz P
   rintro ⟨hi, hPl, hat, hzr, hzc, hres⟩
   refine rL aZ 6 rfl ?_
   refine aN rfl (fun h91 => ?_) (fun h91 => ?_)
   ·refine rC aZ 5 rfl ?_
    obtain ⟨x, hx⟩ : ∃ x, x = (PK.g (aa.bb h) (i : Int)) := ⟨_, rfl⟩
    have hx2 : x = (aa.bb h).getD i ⟨0, 0, 0, 0, 0, 0⟩ := hx
    have hxi := hps.1 x (hx2 ▸ aa.EJ (by omega))
    have hne := aa.KQ (bits := aa.bitsOf h) (by omega) hx2
    refine bK ?_
    refine oV (xI V.tJ (own dJ)) ?_
    refine oV (cK (v := .agg #[.int .i64 x.x, .int .i64 x.y, .int .i64 x.dx, .int .i64 x.dy, .int .i64 x.w, .int .i64 x.h]) (oa (c := PK) V.a145 rfl (own dJ) (by omega) (by omega) rfl) (by rw [hx])) ?_
    refine cC V.z145 rfl ?_
    intro b12
    refine aU (aF V.a145 rfl rfl (us := [_, _, _, _, _, _]) rfl rfl (by exact cY) (by exact Nat.le_of_ble_eq_true rfl) rfl) ?_
    refine rO aZ 2 rfl ?_
    rcases (aa.Qv (aa.fh ⟨h, pl, tr⟩ z.1 (aa.lN h x) (aa.nX h) x x.h.toNat 0 a [] P)) with hr | ⟨a2, P2, hr⟩
    ·refine rC aZ 3 rfl ?_
     refine oV (bG V.ek rfl bW (vs := [_, _, _]) rfl rfl) ?_
     refine oV (bG V.a145 rfl an (vs := [_, _, _, _, _, _]) rfl rfl) ?_
     refine oV (aK rfl) ?_
     refine ai (Iy h bf pp pl cp pt tr ct pd Z.length cd pk ck R hP hT hcp hB hBt hpl htl Rk hRk hf hs (some ⟨bq, 0, none⟩) ((4 * h.w * h.h).toNat) ((4 * h.w * h.h).toNat) (by omega) (Nat.le_refl _) P hPl x hxi.1 z.1 hzB hzl (aa.lN h x) (aa.zt hxi.2.1 hde) (aa.nX h) (aa.zX h) a (by rw [hne] at hat; unfold aa.lN; omega) pz cz (Row U5 qz z.1.length cqz z.1) hzr hzc hr) V.Pj  rfl (.cons oo (.cons bX (.cons kb (.cons dI (.cons kb .nil))))) rfl ?_
     rintro _ _ ⟨rfl, P2, hP2, rfl⟩
     refine rO aZ 16 rfl ?_
     refine oV (cB V.mH V.kJ rfl (cs := [_, _, _]) rfl) ?_
     refine aU (aF V.ek rfl rfl (us := [_, _, _]) rfl rfl (by exact RR) (by exact Nat.le_of_ble_eq_true rfl) rfl) ?_
     refine rO aZ 9 rfl ?_
     rw [aa.G6 (f := ⟨h, pl, tr⟩) h1 h2 (hRES.symm.trans (aa.Mn (f := ⟨h, pl, tr⟩) (by omega) hx2 hr hres))]
     exact ak (e9 V.ek rfl Q9 rfl rfl) ⟨none, 0, 0, rfl, rfl, Nat.le_refl _, rfl⟩ ((ej (A := Row (aP 62 .u16) none 0 0 []) (fun w0 => Row.nil _ _ _)).trans (sub (ar .nil) PW))
    ·refine rC aZ 3 rfl ?_
     refine oV (bG V.ek rfl bW (vs := [_, _, _]) rfl rfl) ?_
     refine oV (bG V.a145 rfl an (vs := [_, _, _, _, _, _]) rfl rfl) ?_
     refine oV (aK rfl) ?_
     refine ai (Ja h bf pp pl cp pt tr ct pd Z.length cd pk ck R hP hT hcp hB hBt hpl htl Rk hRk hf hs (some ⟨bq, 0, none⟩) ((4 * h.w * h.h).toNat) ((4 * h.w * h.h).toNat) (by omega) (Nat.le_refl _) P hPl x hxi.1 z.1 hzB hzl (aa.lN h x) (aa.zt hxi.2.1 hde) (aa.nX h) (aa.zX h) a (by rw [hne] at hat; unfold aa.lN; omega) pz cz (Row U5 qz z.1.length cqz z.1) hzr hzc a2 P2 hr) V.Pj  rfl (.cons oo (.cons bX (.cons kb (.cons dI (.cons kb .nil))))) rfl ?_
     rintro _ _ ⟨pz2, cz2, hP2, ha2, hz2, hcz2, rfl, rfl⟩
     refine cQ aZ 21 rfl (by omega) ?_
     exact j5 (i + 1) a2 pz2 cz2 P2 ⟨⟨by omega, hP2, by rw [ha2]; rw [hne] at hat; unfold aa.lN; omega, hz2, hcz2, aa.JH (f := ⟨h, pl, tr⟩) (by omega) hx2 hr hres⟩, by omega⟩ (kG (dp ln)) (sub (.cons oo (.cons ay (.cons kb (.cons bX (.cons ig (bF (.cons bX (.cons dQ .nil)))))))) cD)
   ·refine rC aZ 7 rfl ?_
    refine oV (bG V.ek rfl an (vs := [_, _, _]) rfl rfl) ?_
    refine aU (aF V.ek rfl rfl (us := [_, _, _]) rfl rfl (by exact G4) (by exact Nat.le_of_ble_eq_true rfl) rfl) ?_
    refine rO aZ 4 rfl ?_
    rw [aa.GA (f := ⟨h, pl, tr⟩) h1 h2 (hRES.symm.trans (aa.La (by omega) hres))]
    exact ak (e9 V.ek rfl jF rfl rfl) ⟨_, _, _, rfl, hPl, Nat.le_refl _, rfl⟩ (sub (.cons ay .nil) Cw)
theorem Ll (p : Option Addr) (c : Nat) (B : List Int) (R : ad) (hR : ∀ w0 h, R w0 h → aS U5 p B.length B w0 h) (hl : B.length < 500000000) (hB : aj.au B) (hcap : B.length ≤ c) (e : Int) (hc : aa.cut B = .error e) : aG Tryz.prog 37 [.slice p B.length c] [R] (aQ fun v G => v = .tuple #[.slice none 0 0, .int .i64 e] ∧ G = [R]) := by
 refine (GC p c B R hR hl hB hcap).mono ?_
 rintro e2 G ⟨v, rfl, (⟨e', h, rfl, rfl⟩ | ⟨q, cq, es, h, _⟩)⟩
 ·rw [hc] at h; cases h; exact ⟨_, rfl, rfl, rfl⟩
 ·rw [hc] at h; cases h
theorem pX (p : Option Addr) (c : Nat) (B : List Int) (R : ad) (hR : ∀ w0 h, R w0 h → aS U5 p B.length B w0 h) (hl : B.length < 500000000) (hB : aj.au B) (hcap : B.length ≤ c) (l : List aa.Ch) (hc : aa.cut B = .ok l) : aG Tryz.prog 37 [.slice p B.length c] [R] (aQ fun v G => ∃ q cq, ∃ es : List Ce, l = es.map Ce.ch ∧ es.length ≤ 262144 ∧ (∀ y ∈ es, zr y) ∧ v = .tuple #[.slice q es.length cq, .int .i64 0] ∧ G = [Row CK q es.length cq es, DK es, R]) := by
 refine (GC p c B R hR hl hB hcap).mono ?_
 rintro e2 G ⟨v, rfl, (⟨e', h, _⟩ | ⟨q, cq, es, h, h1, h2, rfl, rfl⟩)⟩
 ·rw [hc] at h; cases h
 ·rw [hc] at h; cases h; exact ⟨_, rfl, q, cq, es, rfl, h1, h2, rfl, rfl⟩
theorem ml {B : List Int} {es : List Ce} (hB : aj.au B) (hc : aa.cut B = .ok (es.map Ce.ch)) : G2 es := fun x hx => aa.N9 hB hc x.ch (List.mem_map_of_mem hx)
theorem qG (es : List Ce) : aa.ei (es.map Ce.ch) = (CK.g es 0).d := by
 unfold aa.ei
 cases es <;> rfl
theorem qN {es : List Ce} (h : 0 < es.length) : CK.g es 0 ∈ es := by
 match es, h with
 | x :: es, _ => exact List.mem_cons_self ..
theorem vb {es : List Ce} {s : qH} (hs : mM es es.length s) (ho : aa.dG (es.map Ce.ch) = true) : s.P = aa.cm (es.map Ce.ch) aa.a7 ∧ s.T = aa.cm (es.map Ce.ch) aa.bA ∧ s.D = aa.c4 (es.map Ce.ch) ∧ s.hp = aa.eQ (es.map Ce.ch) aa.a7 ∧ s.ht = aa.eQ (es.map Ce.ch) aa.bA := by
 obtain ⟨h1, h2, h3, h4, h5, _⟩ := hs
 have e : (es.map Ce.ch).take es.length = es.map Ce.ch := List.take_of_length_le (by rw [List.length_map]; exact Nat.le_refl _)
 rw [e] at h1 h2 h3 h4 h5
 have hl := aa.FC ho
 exact ⟨h1.trans hl.1, h2.trans hl.2, h3, h4, h5⟩
theorem uH (h : aa.Hd) (hd : aa.jH h.dep) (bf : Nat) (pp : Option Addr) (pl : List Int) (cp : Nat) (pt : Option Addr) (tr : List Int) (ct : Nat) (pd : Option Addr) (nd cd : Nat) (pk : Option Addr) (nk ck : Nat) (hl : pl.length < 500000000) (has : Bool) (t : Bool) (ht : t = decide (aa.jC h pl has)) : aG Tryz.prog 40 [.pointer (some ⟨bf, 0, none⟩), .bool has] [ao bf 90 [.int .i64 h.w, .int .i64 h.h, .int .i64 h.dep, .int .i64 h.ax, .bool h.cA, .slice pp pl.length cp, .slice pt tr.length ct, .slice pd nd cd, .slice pk nk ck]] (aQ fun v G => v = .bool t ∧ G = [ao bf 90 [.int .i64 h.w, .int .i64 h.h, .int .i64 h.dep, .int .i64 h.ax, .bool h.cA, .slice pp pl.length cp, .slice pt tr.length ct, .slice pd nd cd, .slice pk nk ck]]) := by
 cases has with
 | true => exact Db h hd bf pp pl cp pt tr ct pd nd cd pk nk ck hl t ht
 | false => exact BQ h hd bf pp pl cp pt tr ct pd nd cd pk nk ck hl t ht
theorem w8 (h : aa.Hd) (hd : aa.jH h.dep) (bf : Nat) (pp : Option Addr) (pl : List Int) (cp : Nat) (pt : Option Addr) (tr : List Int) (ct : Nat) (pd : Option Addr) (nd cd : Nat) (hpl : pl.length < 500000000) (htl : tr.length < 500000000) (hB : aj.au tr) (R : ad) (hR : ∀ w0 h, R w0 h → aS U5 pt tr.length tr w0 h) (is : Bool) (hi : is = false → tr = []) (t : Bool) (ht : t = decide (aa.jK h pl tr is)) : aG Tryz.prog 41 [.pointer (some ⟨bf, 0, none⟩), .bool is] [ao bf 90 [.int .i64 h.w, .int .i64 h.h, .int .i64 h.dep, .int .i64 h.ax, .bool h.cA, .slice pp pl.length cp, .slice pt tr.length ct, .slice pd nd cd, .slice none 0 0], R] (aQ fun v G => ∃ pk nk ck K, (t = true → K = aa.bD h tr) ∧ K.length = nk ∧ v = .bool t ∧ G = [ao bf 90 [.int .i64 h.w, .int .i64 h.h, .int .i64 h.dep, .int .i64 h.ax, .bool h.cA, .slice pp pl.length cp, .slice pt tr.length ct, .slice pd nd cd, .slice pk nk ck], Row (aP 3 .i64) pk nk ck K, R]) := by
 cases is with
 | true => exact AL h hd bf pp pl cp pt tr ct pd nd cd hpl htl hB R hR t ht
 | false =>
  have e := Am h hd bf pp pl cp pt tr ct pd nd cd hpl (hi rfl) htl hB t (ht.trans (decide_eq_true (aa.JE h pl tr)))
  refine (e.frame [R]).mono ?_
  rintro e2 G ⟨v, rfl, G', ⟨pk, nk, ck, K, h1, h2, h3, rfl⟩, rfl⟩
  exact ⟨_, rfl, pk, nk, ck, K, h1, h2, h3, rfl⟩
set_option maxHeartbeats 16000000 in
theorem py (p : Option Addr) (c : Nat) (B : List Int) (R : ad) (hR : ∀ w0 h, R w0 h → aS U5 p B.length B w0 h) (hl : B.length < 500000000) (hB : aj.au B) (hcap : B.length ≤ c) (r : aa.qQ × Int) (hr0 : aa.kp B r) : aG Tryz.prog 14 [.slice p B.length c] [R] (aQ fun v G => ∃ q n c2, v = .tuple #[.agg #[.int .i64 r.1.w, .int .i64 r.1.h, .slice q n c2], .int .i64 r.2] ∧ r.1.c5.length = n ∧ n ≤ c2 ∧ G = [Row (aP 62 .u16) q n c2 r.1.c5, R]) := by
 refine av [(0, _)] Tryz.func14 rfl Tryz.ntmps14 rfl rfl ?_
 intro w0 F
 refine rT aZ 2 rfl ?_
 refine cC V.kJ rfl ?_
 intro b2
 refine rO aZ 3 rfl ?_
 rcases (hr0.PU) with ⟨e, h1, hr⟩ | ⟨l, h1, ho, hr⟩ | ⟨l, h1, ho, hh, hr⟩ | ⟨l, h1, ho, hh, ht, hr⟩ | ⟨l, h1, ho, hh, ht, hc, hr⟩ | ⟨l, z, h1, ho, hh, ht, hc, hz, hr⟩
 ·refine rC aZ 3 rfl ?_
  refine ai (Ll p c B R hR hl hB hcap e h1) V.zV  rfl (.cons ay .nil) rfl ?_
  rintro _ _ ⟨rfl, rfl⟩
  refine rO aZ 11 rfl ?_
  refine oV (aW (cx rfl rfl) (aa.L8 h1)) ?_
  refine rO aZ 5 rfl ?_
  refine oV (cB V.mH V.kJ rfl (cs := [_, _, _]) rfl) ?_
  refine oV (aK rfl) ?_
  refine aU (aF V.ek rfl rfl (us := [_, _, _]) rfl rfl (by exact mh) (by exact Nat.le_of_ble_eq_true rfl) rfl) ?_
  refine rO aZ 5 rfl ?_
  subst hr
  exact ak (e9 V.ek rfl bW rfl rfl) ⟨none, 0, 0, rfl, rfl, Nat.le_refl _, rfl⟩ ((ej (A := Row (aP 62 .u16) none 0 0 []) (fun w0 => Row.nil _ _ _)).trans (sub (bF .nil) cD))
 ·refine rC aZ 3 rfl ?_
  refine ai (pX p c B R hR hl hB hcap l h1) V.zV  rfl (.cons ay .nil) rfl ?_
  rintro _ _ ⟨q13, c13, es, rfl, hel, hco, rfl, rfl⟩
  refine rO aZ 11 rfl ?_
  refine oV (aA (cx rfl rfl) (fun q => q rfl)) ?_
  refine rO aZ 7 rfl ?_
  refine gY (fun w hi => fM hi (show Row CK q13 es.length c13 es ∈ _ by exact an)) (fun hcq => ?_)
  refine rC aZ 2 rfl ?_
  refine ai (oD q13 c13 es (Row CK q13 es.length c13 es) (fun _ _ hh => hh.rd) hel (ml hB h1) hcq) V.BW  rfl (ar .nil) rfl ?_
  rintro _ _ ⟨rfl, rfl⟩
  rw [aa.mr ho]
  refine rO aZ 6 rfl ?_
  refine oV (aW (cx rfl rfl) (by decide)) ?_
  refine rO aZ 5 rfl ?_
  refine oV (cB V.mH V.kJ rfl (cs := [_, _, _]) rfl) ?_
  refine oV (aK rfl) ?_
  refine aU (aF V.ek rfl rfl (us := [_, _, _]) rfl rfl (by exact wH) (by exact Nat.le_of_ble_eq_true rfl) rfl) ?_
  refine rO aZ 5 rfl ?_
  subst hr
  exact ak (e9 V.ek rfl eG rfl rfl) ⟨none, 0, 0, rfl, rfl, Nat.le_refl _, rfl⟩ ((ej (A := Row (aP 62 .u16) none 0 0 []) (fun w0 => Row.nil _ _ _)).trans (sub (ar (.cons bX .nil)) n8))
 ·refine rC aZ 3 rfl ?_
  refine ai (pX p c B R hR hl hB hcap l h1) V.zV  rfl (.cons ay .nil) rfl ?_
  rintro _ _ ⟨q13, c13, es, rfl, hel, hco, rfl, rfl⟩
  refine rO aZ 11 rfl ?_
  refine oV (aA (cx rfl rfl) (fun q => q rfl)) ?_
  refine rO aZ 7 rfl ?_
  refine gY (fun w hi => fM hi (show Row CK q13 es.length c13 es ∈ _ by exact an)) (fun hcq => ?_)
  refine rC aZ 2 rfl ?_
  refine ai (oD q13 c13 es (Row CK q13 es.length c13 es) (fun _ _ hh => hh.rd) hel (ml hB h1) hcq) V.BW  rfl (ar .nil) rfl ?_
  rintro _ _ ⟨rfl, rfl⟩
  rw [aa.pO ho]
  refine rO aZ 6 rfl ?_
  refine oV (aA (cx rfl rfl) (fun q => q rfl)) ?_
  refine rO aZ 6 rfl ?_
  have h3 : 0 < es.length := by have := aa.vJ ho; rw [List.length_map] at this; omega
  refine rC aZ 2 rfl ?_
  refine oV (xI V.gv (own an)) ?_
  refine oV (aE V.lx rfl) ?_
  refine oV (dW (c := (CK)) 1 V.eC rfl (own an) (by omega) (by omega) rfl rfl) ?_
  refine ai (tB (CK.g es 0).p (CK.g es 0).c (CK.g es 0).d (DK es) (nD (qN h3)) (aa.ik hB h1 (CK.g es 0).ch (List.mem_map_of_mem (qN h3)))) V.zg  rfl (.cons ay .nil) rfl ?_
  rintro _ _ ⟨rfl, rfl⟩
  refine rO aZ 3 rfl ?_
  refine cC V.nF rfl ?_
  intro b7
  refine aU (aF V.jr rfl rfl (us := [_, _, _, _, _]) rfl rfl (by exact cY) (by exact Nat.le_of_ble_eq_true rfl) rfl) ?_
  refine rO aZ 7 rfl ?_
  refine oV (aW (cx rfl rfl) (by rw [← qG]; exact hh)) ?_
  refine rO aZ 5 rfl ?_
  refine oV (cB V.mH V.kJ rfl (cs := [_, _, _]) rfl) ?_
  refine oV (aK rfl) ?_
  refine aU (aF V.ek rfl rfl (us := [_, _, _]) rfl rfl (by exact G4) (by exact Nat.le_of_ble_eq_true rfl) rfl) ?_
  refine rO aZ 5 rfl ?_
  rw [← qG]
  subst hr
  exact ak (e9 V.ek rfl jF rfl rfl) ⟨none, 0, 0, rfl, rfl, Nat.le_refl _, rfl⟩ ((ej (A := Row (aP 62 .u16) none 0 0 []) (fun w0 => Row.nil _ _ _)).trans (sub (ar (.cons dI .nil)) mI))
 ·refine rC aZ 3 rfl ?_
  refine ai (pX p c B R hR hl hB hcap l h1) V.zV  rfl (.cons ay .nil) rfl ?_
  rintro _ _ ⟨q13, c13, es, rfl, hel, hco, rfl, rfl⟩
  refine rO aZ 11 rfl ?_
  refine oV (aA (cx rfl rfl) (fun q => q rfl)) ?_
  refine rO aZ 7 rfl ?_
  refine gY (fun w hi => fM hi (show Row CK q13 es.length c13 es ∈ _ by exact an)) (fun hcq => ?_)
  refine rC aZ 2 rfl ?_
  refine ai (oD q13 c13 es (Row CK q13 es.length c13 es) (fun _ _ hh => hh.rd) hel (ml hB h1) hcq) V.BW  rfl (ar .nil) rfl ?_
  rintro _ _ ⟨rfl, rfl⟩
  rw [aa.pO ho]
  refine rO aZ 6 rfl ?_
  refine oV (aA (cx rfl rfl) (fun q => q rfl)) ?_
  refine rO aZ 6 rfl ?_
  have h3 : 0 < es.length := by have := aa.vJ ho; rw [List.length_map] at this; omega
  obtain ⟨h, hhd⟩ : ∃ h, h = aa.a8 (aa.ei (es.map Ce.ch)) := ⟨_, rfl⟩
  rw [← hhd] at ht
  obtain ⟨hde, hsz⟩ := aa.sA hh
  rw [← hhd] at hde hsz
  have hd := aa.iD hde
  have hcl := aa.uu h1
  refine rC aZ 2 rfl ?_
  refine oV (xI V.gv (own an)) ?_
  refine oV (aE V.lx rfl) ?_
  refine oV (dW (c := (CK)) 1 V.eC rfl (own an) (by omega) (by omega) rfl rfl) ?_
  refine ai (tB (CK.g es 0).p (CK.g es 0).c (CK.g es 0).d (DK es) (nD (qN h3)) (aa.ik hB h1 (CK.g es 0).ch (List.mem_map_of_mem (qN h3)))) V.zg  rfl (.cons ay .nil) rfl ?_
  rintro _ _ ⟨rfl, rfl⟩
  rw [← qG, hh, aa.vK hh, ← hhd]
  refine rO aZ 3 rfl ?_
  refine cC V.nF rfl ?_
  intro b7
  refine aU (aF V.jr rfl rfl (us := [_, _, _, _, _]) rfl rfl (by exact cY) (by exact Nat.le_of_ble_eq_true rfl) rfl) ?_
  refine rO aZ 7 rfl ?_
  refine oV (aA (cx rfl rfl) (fun q => q rfl)) ?_
  refine rO aZ 8 rfl ?_
  refine ai (sL q13 c13 es (Row CK q13 es.length c13 es) (fun _ _ hh => hh.rd) hel (ml hB h1) hco (by omega)) V.M3  rfl (.cons bX (.cons ay .nil)) rfl ?_
  rintro _ _ ⟨s, hs, rfl, rfl⟩
  refine rO aZ 4 rfl ?_
  refine cC V.GV rfl ?_
  intro b8
  refine aU (aF V.z8 rfl rfl (us := [_, _, _, _, _, _, _, _, _]) rfl rfl (by exact cY) (by exact Nat.le_of_ble_eq_true rfl) rfl) ?_
  refine rO aZ 6 rfl ?_
  refine oV (bG V.jr rfl jF (vs := [_, _, _, _, _]) rfl rfl) ?_
  refine oV (aE V.iG rfl) ?_
  refine aU (aF V.jr rfl rfl (us := [_, _, _, _, _]) rfl rfl (by exact cY) (by exact Nat.le_of_ble_eq_true rfl) rfl) ?_
  refine rO aZ 4 rfl ?_
  obtain ⟨eP, eT, eD, ep, et⟩ := vb hs ho
  have hso := hs
  obtain ⟨_, _, _, _, _, hcp, hct, hrP, hrT⟩ := hso
  have hBP : aj.au s.P := eP ▸ aa.lU (aa.ik hB h1) _
  have hBT : aj.au s.T := eT ▸ aa.lU (aa.ik hB h1) _
  have hBD : aj.au s.D := eD ▸ aa.sF (aa.ik hB h1)
  have hlP : s.P.length < 500000000 := by rw [eP]; exact Nat.lt_of_le_of_lt aa.mQ (by omega)
  have hlT : s.T.length < 500000000 := by rw [eT]; exact Nat.lt_of_le_of_lt aa.mQ (by omega)
  have hlD : s.D.length < 500000000 := by rw [eD]; exact Nat.lt_of_le_of_lt (aa.ox _) (by omega)
  have hn0 : s.hp = false → s.P = [] := fun q => by rw [eP]; exact aa.og (ep.symm.trans q)
  have hn1 : s.ht = false → s.T = [] := fun q => by rw [eT]; exact aa.og (et.symm.trans q)
  rw [← eP, ← ep] at ht
  refine rC aZ 2 rfl ?_
  refine ai (uH h hd b8 s.pp s.P s.cp s.pt s.T s.ct s.pd s.D.length s.cd none 0 0 hlP s.hp false (decide_eq_false ht).symm) V.JK  rfl (ar .nil) rfl ?_
  rintro _ _ ⟨rfl, rfl⟩
  refine rO aZ 11 rfl ?_
  refine oV (cB V.mH V.kJ rfl (cs := [_, _, _]) rfl) ?_
  refine aU (aF V.ek rfl rfl (us := [_, _, _]) rfl rfl (by exact Pt) (by exact Nat.le_of_ble_eq_true rfl) rfl) ?_
  refine rO aZ 5 rfl ?_
  subst hr
  exact ak (e9 V.ek rfl Nr rfl rfl) ⟨none, 0, 0, rfl, rfl, Nat.le_refl _, rfl⟩ ((ej (A := Row (aP 62 .u16) none 0 0 []) (fun w0 => Row.nil _ _ _)).trans (sub (ar (.cons kb .nil)) Pa))
 ·refine rC aZ 3 rfl ?_
  refine ai (pX p c B R hR hl hB hcap l h1) V.zV  rfl (.cons ay .nil) rfl ?_
  rintro _ _ ⟨q13, c13, es, rfl, hel, hco, rfl, rfl⟩
  refine rO aZ 11 rfl ?_
  refine oV (aA (cx rfl rfl) (fun q => q rfl)) ?_
  refine rO aZ 7 rfl ?_
  refine gY (fun w hi => fM hi (show Row CK q13 es.length c13 es ∈ _ by exact an)) (fun hcq => ?_)
  refine rC aZ 2 rfl ?_
  refine ai (oD q13 c13 es (Row CK q13 es.length c13 es) (fun _ _ hh => hh.rd) hel (ml hB h1) hcq) V.BW  rfl (ar .nil) rfl ?_
  rintro _ _ ⟨rfl, rfl⟩
  rw [aa.pO ho]
  refine rO aZ 6 rfl ?_
  refine oV (aA (cx rfl rfl) (fun q => q rfl)) ?_
  refine rO aZ 6 rfl ?_
  have h3 : 0 < es.length := by have := aa.vJ ho; rw [List.length_map] at this; omega
  obtain ⟨h, hhd⟩ : ∃ h, h = aa.a8 (aa.ei (es.map Ce.ch)) := ⟨_, rfl⟩
  rw [← hhd] at ht
  obtain ⟨hde, hsz⟩ := aa.sA hh
  rw [← hhd] at hde hsz
  have hd := aa.iD hde
  have hcl := aa.uu h1
  refine rC aZ 2 rfl ?_
  refine oV (xI V.gv (own an)) ?_
  refine oV (aE V.lx rfl) ?_
  refine oV (dW (c := (CK)) 1 V.eC rfl (own an) (by omega) (by omega) rfl rfl) ?_
  refine ai (tB (CK.g es 0).p (CK.g es 0).c (CK.g es 0).d (DK es) (nD (qN h3)) (aa.ik hB h1 (CK.g es 0).ch (List.mem_map_of_mem (qN h3)))) V.zg  rfl (.cons ay .nil) rfl ?_
  rintro _ _ ⟨rfl, rfl⟩
  rw [← qG, hh, aa.vK hh, ← hhd]
  refine rO aZ 3 rfl ?_
  refine cC V.nF rfl ?_
  intro b7
  refine aU (aF V.jr rfl rfl (us := [_, _, _, _, _]) rfl rfl (by exact cY) (by exact Nat.le_of_ble_eq_true rfl) rfl) ?_
  refine rO aZ 7 rfl ?_
  refine oV (aA (cx rfl rfl) (fun q => q rfl)) ?_
  refine rO aZ 8 rfl ?_
  refine ai (sL q13 c13 es (Row CK q13 es.length c13 es) (fun _ _ hh => hh.rd) hel (ml hB h1) hco (by omega)) V.M3  rfl (.cons bX (.cons ay .nil)) rfl ?_
  rintro _ _ ⟨s, hs, rfl, rfl⟩
  refine rO aZ 4 rfl ?_
  refine cC V.GV rfl ?_
  intro b8
  refine aU (aF V.z8 rfl rfl (us := [_, _, _, _, _, _, _, _, _]) rfl rfl (by exact cY) (by exact Nat.le_of_ble_eq_true rfl) rfl) ?_
  refine rO aZ 6 rfl ?_
  refine oV (bG V.jr rfl jF (vs := [_, _, _, _, _]) rfl rfl) ?_
  refine oV (aE V.iG rfl) ?_
  refine aU (aF V.jr rfl rfl (us := [_, _, _, _, _]) rfl rfl (by exact cY) (by exact Nat.le_of_ble_eq_true rfl) rfl) ?_
  refine rO aZ 4 rfl ?_
  obtain ⟨eP, eT, eD, ep, et⟩ := vb hs ho
  have hso := hs
  obtain ⟨_, _, _, _, _, hcp, hct, hrP, hrT⟩ := hso
  have hBP : aj.au s.P := eP ▸ aa.lU (aa.ik hB h1) _
  have hBT : aj.au s.T := eT ▸ aa.lU (aa.ik hB h1) _
  have hBD : aj.au s.D := eD ▸ aa.sF (aa.ik hB h1)
  have hlP : s.P.length < 500000000 := by rw [eP]; exact Nat.lt_of_le_of_lt aa.mQ (by omega)
  have hlT : s.T.length < 500000000 := by rw [eT]; exact Nat.lt_of_le_of_lt aa.mQ (by omega)
  have hlD : s.D.length < 500000000 := by rw [eD]; exact Nat.lt_of_le_of_lt (aa.ox _) (by omega)
  have hn0 : s.hp = false → s.P = [] := fun q => by rw [eP]; exact aa.og (ep.symm.trans q)
  have hn1 : s.ht = false → s.T = [] := fun q => by rw [eT]; exact aa.og (et.symm.trans q)
  rw [← eP, ← ep] at ht
  rw [← hhd, ← eP, ← eT, ← et] at hc
  refine rC aZ 2 rfl ?_
  refine ai (uH h hd b8 s.pp s.P s.cp s.pt s.T s.ct s.pd s.D.length s.cd none 0 0 hlP s.hp true (decide_eq_true ht).symm) V.JK  rfl (ar .nil) rfl ?_
  rintro _ _ ⟨rfl, rfl⟩
  refine rO aZ 3 rfl ?_
  refine ag rfl ?_
  refine ai (w8 h hd b8 s.pp s.P s.cp s.pt s.T s.ct s.pd s.D.length s.cd hlP hlT hBT (DK es) hrT s.ht hn1 false (decide_eq_false hc).symm) V.Pu  rfl (ar (.cons bX .nil)) rfl ?_
  rintro _ _ ⟨pk, nk, ck, K, hK, hKn, rfl, rfl⟩
  refine rO aZ 7 rfl ?_
  refine oV (cB V.mH V.kJ rfl (cs := [_, _, _]) rfl) ?_
  refine aU (aF V.ek rfl rfl (us := [_, _, _]) rfl rfl (by exact O7) (by exact Nat.le_of_ble_eq_true rfl) rfl) ?_
  refine rO aZ 5 rfl ?_
  subst hr
  exact ak (e9 V.ek rfl te rfl rfl) ⟨none, 0, 0, rfl, rfl, Nat.le_refl _, rfl⟩ ((ej (A := Row (aP 62 .u16) none 0 0 []) (fun w0 => Row.nil _ _ _)).trans (sub (ar (.cons oo .nil)) Gu))
 ·refine rC aZ 3 rfl ?_
  refine ai (pX p c B R hR hl hB hcap l h1) V.zV  rfl (.cons ay .nil) rfl ?_
  rintro _ _ ⟨q13, c13, es, rfl, hel, hco, rfl, rfl⟩
  refine rO aZ 11 rfl ?_
  refine oV (aA (cx rfl rfl) (fun q => q rfl)) ?_
  refine rO aZ 7 rfl ?_
  refine gY (fun w hi => fM hi (show Row CK q13 es.length c13 es ∈ _ by exact an)) (fun hcq => ?_)
  refine rC aZ 2 rfl ?_
  refine ai (oD q13 c13 es (Row CK q13 es.length c13 es) (fun _ _ hh => hh.rd) hel (ml hB h1) hcq) V.BW  rfl (ar .nil) rfl ?_
  rintro _ _ ⟨rfl, rfl⟩
  rw [aa.pO ho]
  refine rO aZ 6 rfl ?_
  refine oV (aA (cx rfl rfl) (fun q => q rfl)) ?_
  refine rO aZ 6 rfl ?_
  have h3 : 0 < es.length := by have := aa.vJ ho; rw [List.length_map] at this; omega
  obtain ⟨h, hhd⟩ : ∃ h, h = aa.a8 (aa.ei (es.map Ce.ch)) := ⟨_, rfl⟩
  rw [← hhd] at ht
  obtain ⟨hde, hsz⟩ := aa.sA hh
  rw [← hhd] at hde hsz
  have hd := aa.iD hde
  have hcl := aa.uu h1
  refine rC aZ 2 rfl ?_
  refine oV (xI V.gv (own an)) ?_
  refine oV (aE V.lx rfl) ?_
  refine oV (dW (c := (CK)) 1 V.eC rfl (own an) (by omega) (by omega) rfl rfl) ?_
  refine ai (tB (CK.g es 0).p (CK.g es 0).c (CK.g es 0).d (DK es) (nD (qN h3)) (aa.ik hB h1 (CK.g es 0).ch (List.mem_map_of_mem (qN h3)))) V.zg  rfl (.cons ay .nil) rfl ?_
  rintro _ _ ⟨rfl, rfl⟩
  rw [← qG, hh, aa.vK hh, ← hhd]
  refine rO aZ 3 rfl ?_
  refine cC V.nF rfl ?_
  intro b7
  refine aU (aF V.jr rfl rfl (us := [_, _, _, _, _]) rfl rfl (by exact cY) (by exact Nat.le_of_ble_eq_true rfl) rfl) ?_
  refine rO aZ 7 rfl ?_
  refine oV (aA (cx rfl rfl) (fun q => q rfl)) ?_
  refine rO aZ 8 rfl ?_
  refine ai (sL q13 c13 es (Row CK q13 es.length c13 es) (fun _ _ hh => hh.rd) hel (ml hB h1) hco (by omega)) V.M3  rfl (.cons bX (.cons ay .nil)) rfl ?_
  rintro _ _ ⟨s, hs, rfl, rfl⟩
  refine rO aZ 4 rfl ?_
  refine cC V.GV rfl ?_
  intro b8
  refine aU (aF V.z8 rfl rfl (us := [_, _, _, _, _, _, _, _, _]) rfl rfl (by exact cY) (by exact Nat.le_of_ble_eq_true rfl) rfl) ?_
  refine rO aZ 6 rfl ?_
  refine oV (bG V.jr rfl jF (vs := [_, _, _, _, _]) rfl rfl) ?_
  refine oV (aE V.iG rfl) ?_
  refine aU (aF V.jr rfl rfl (us := [_, _, _, _, _]) rfl rfl (by exact cY) (by exact Nat.le_of_ble_eq_true rfl) rfl) ?_
  refine rO aZ 4 rfl ?_
  obtain ⟨eP, eT, eD, ep, et⟩ := vb hs ho
  have hso := hs
  obtain ⟨_, _, _, _, _, hcp, hct, hrP, hrT⟩ := hso
  have hBP : aj.au s.P := eP ▸ aa.lU (aa.ik hB h1) _
  have hBT : aj.au s.T := eT ▸ aa.lU (aa.ik hB h1) _
  have hBD : aj.au s.D := eD ▸ aa.sF (aa.ik hB h1)
  have hlP : s.P.length < 500000000 := by rw [eP]; exact Nat.lt_of_le_of_lt aa.mQ (by omega)
  have hlT : s.T.length < 500000000 := by rw [eT]; exact Nat.lt_of_le_of_lt aa.mQ (by omega)
  have hlD : s.D.length < 500000000 := by rw [eD]; exact Nat.lt_of_le_of_lt (aa.ox _) (by omega)
  have hn0 : s.hp = false → s.P = [] := fun q => by rw [eP]; exact aa.og (ep.symm.trans q)
  have hn1 : s.ht = false → s.T = [] := fun q => by rw [eT]; exact aa.og (et.symm.trans q)
  rw [← eP, ← ep] at ht
  rw [← hhd, ← eP, ← eT, ← et] at hc
  refine rC aZ 2 rfl ?_
  refine ai (uH h hd b8 s.pp s.P s.cp s.pt s.T s.ct s.pd s.D.length s.cd none 0 0 hlP s.hp true (decide_eq_true ht).symm) V.JK  rfl (ar .nil) rfl ?_
  rintro _ _ ⟨rfl, rfl⟩
  refine rO aZ 3 rfl ?_
  refine ag rfl ?_
  refine ai (w8 h hd b8 s.pp s.P s.cp s.pt s.T s.ct s.pd s.D.length s.cd hlP hlT hBT (DK es) hrT s.ht hn1 true (decide_eq_true hc).symm) V.Pu  rfl (ar (.cons bX .nil)) rfl ?_
  rintro _ _ ⟨pk, nk, ck, K, hK, rfl, rfl, rfl⟩
  obtain rfl := hK rfl
  refine rO aZ 8 rfl ?_
  refine gY (fun w hi => fM hi (show Row U5 s.pd s.D.length s.cd s.D ∈ _ by exact eG)) (fun hcD => ?_)
  refine bK ?_
  refine ai (J9 h b8 s.pp s.P s.cp s.pt s.T s.ct s.pd s.cd pk ck (DK es) hrP hrT hcp hBP hBT hlP hlT (Row (aP 3 .i64) pk (aa.bD h s.T).length ck (aa.bD h s.T)) (fun _ _ hh => hh.rd) (aa.I9 hde hBP hBT hlP hlT ht hc hn0 hn1) hsz s.D hBD hlD hcD (Row U5 s.pd s.D.length s.cd s.D) (fun _ _ hh => hh.rd) z (by rw [eD, hhd]; exact hz)) V.Ru  rfl (bF (.cons ay (.cons dQ .nil))) rfl ?_
  rintro _ _ ⟨q55, n55, c55, rfl, hn55, hc55, rfl⟩
  refine rO aZ 2 rfl ?_
  refine aU (aF V.ek rfl rfl (us := [_, _, _]) rfl rfl (by exact G4) (by exact Nat.le_of_ble_eq_true rfl) rfl) ?_
  refine rO aZ 4 rfl ?_
  rw [aa.MQ hhd eP eT] at hr
  subst hr
  exact ak (e9 V.ek rfl jF rfl rfl) ⟨q55, n55, c55, rfl, hn55, hc55, rfl⟩ (sub (ar (.cons bX .nil)) n8)
end Go.Proofs.YtmaiakpjgomnpaaGreat
namespace Go.Proofs.YtmaiakpjgomnpaaGreat
open Go.Sl
theorem V.RJ : aH Tryz.prog 35 = true := by kernel_rfl
end Go.Proofs.YtmaiakpjgomnpaaGreat
namespace Go.Proofs.YtmaiakpjgomnpaaGreat
open Go.Sl 
theorem R7 : dU Tryz.prog ⟨[22, 59, 64], [(38, 0, 0), (38, 1, 1), (38, 4, 4), (57, 0, 0), (57, 1, 1), (67, 0, 0), (67, 1, 1), (67, 2, 2), (67, 3, 3), (67, 4, 4), (67, 5, 5)]⟩ = true := by kernel_rfl
attribute [local irreducible] aj.au aa.bR aa.cZ aa.deep aa.parts HW aa.bD aa.jh aa.fE aa.gw aa.gO aa.fh aa.l8 aa.kZ aa.gk aa.fk aa.fG aa.mj aa.want aa.bb aa.lN aa.nX aa.nW aa.j6 aJ.m7 aa.bQ aa.a7 aa.bA aa.bV aa.cS aa.fc aa.jC aa.jK aa.mC aa.c4 aa.dG aa.cut aa.ei aa.pD aa.cm aa.eQ
theorem IH (w h : Int) (hs : aa.bR w h = 0) : aG Tryz.prog 35 [.int .i64 w, .int .i64 h] [] (aQ fun v G => ∃ b : Nat, v = .tuple #[.agg #[.int .i64 w, .int .i64 h, .slice (some ⟨b, 0, none⟩) ((4 * w * h).toNat) ((4 * w * h).toNat)], .int .i64 0] ∧ G = [Row (aP 62 .u16) (some ⟨b, 0, none⟩) ((4 * w * h).toNat) ((4 * w * h).toNat) (List.replicate ((4 * w * h).toNat) 0)]) := by
  refine (Oz w h).mono ?_
  rintro e2 G ⟨v, rfl, (⟨h1, _⟩ | ⟨_, b, rfl, rfl⟩)⟩
  · exact absurd hs h1
  · exact ⟨_, rfl, b, rfl, rfl⟩
end Go.Proofs.YtmaiakpjgomnpaaGreat
