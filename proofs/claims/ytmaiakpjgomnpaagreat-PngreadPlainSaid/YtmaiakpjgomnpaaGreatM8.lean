/- Walks of functions that the law reaches, and what they lean on; no conditions. -/
import Derived.Test.YtmaiakpjgomnpaaGreatM1
import Derived.KernelRfl
import Derived.Test.YtmaiakpjgomnpaaGreatM7
import Derived.Test.YtmaiakpjgomnpaaGreatM4
import Derived.Test.YtmaiakpjgomnpaaGreatM2
set_option linter.unusedVariables false
set_option linter.unusedSimpArgs false
set_option maxRecDepth 100000
namespace Go.Proofs.YtmaiakpjgomnpaaGreat
open Go.Sl 
theorem bF : dR Tryz.prog ⟨[22, 24, 47], [(35, 2, 2), (35, 3, 3), (38, 2, 2), (38, 3, 3), (90, 0, 0), (90, 1, 5), (90, 2, 6), (90, 4, 8), (151, 1, 1)]⟩ = true := by kernel_rfl
attribute [local irreducible] aj.av aa.bN aa.up aa.cU aa.gX aa.Bh aa.deep aa.parts HW aa.bA aa.iX aa.fC aa.pM aa.ky aa.gq
set_option maxHeartbeats 1000000 in
theorem yI (p1 : Option Addr) (n1 c1 : Nat) (L1 : List Int) (hn1 : L1.length = n1) (R1 : ab) (hR1 : ∀ w0 h, R1 w0 h → aR (aP 3 .i64) p1 n1 L1 w0 h) (p2 : Option Addr) (n2 c2 : Nat) (L2 : List Int) (hn2 : L2.length = n2) (R2 : ab) (hR2 : ∀ w0 h, R2 w0 h → aR (aP 3 .i64) p2 n2 L2 w0 h) (hs1 : n1 ≤ 100000000) (t : Bool) (ht : t = decide (L1 = L2)) : aE Tryz.prog 173 [.slice p1 n1 c1, .slice p2 n2 c2] [R1, R2] (aO fun v G => v = .bool t ∧ G = [R1, R2]) := by
  refine au [(0, _), (1, _)] Tryz.func173 rfl Tryz.ntmps173 rfl rfl ?_
  intro w0 F
  refine rT bF 5 rfl ?_
  rcases (Classical.em (n1 = n2)) with hne0 | hne0
  ·
    refine rC bF 7 rfl ?_
    refine oV (aA (bY rfl rfl) (by omega)) ?_
    refine rO bF 14 rfl ?_
    refine dX (fun (i : Nat) => [(0, .slice p1 n1 c1), (1, .slice p2 n2 c2), (12, .int .i64 (n1 : Int)), (13, .int .i64 (i : Int))]) (fun (i : Nat) => R1 :: R2 :: F) (fun (i : Nat) => i ≤ n1 ∧ ∀ j, j < i → L1.getD j 0 = L2.getD j 0) (fun (i : Nat) => n1 - i) (i1 (0) ?_ (fZ ln) (sub (bD .nil) aw)) ?_
    ·
      exact ⟨Nat.zero_le _, fun j hj => by omega⟩
    intro i
    rintro ⟨hi, hall⟩
    refine rL bF 6 rfl ?_
    refine aN rfl (fun h14 => ?_) (fun h14 => ?_)
    ·
      refine rC bF 10 rfl ?_
      rcases (Classical.em (((aP 3 .i64).g L1 (i : Int)) ≠ ((aP 3 .i64).g L2 (i : Int)))) with hne | hne
      ·
        refine rC bF 1 rfl ?_
        refine o1 V.mixed (by kernel_rfl) ?_
        refine rR bF 2 rfl ?_
        refine oR (xI V.cQ (by exact bE hR1 an)) ?_
        refine oR (xL V.s3 (by exact bE hR1 an)) ?_
        refine rR bF 2 rfl ?_
        refine oR (xI V.cQ (by exact bE hR2 bW)) ?_
        refine oR (xL V.s3 (by exact bE hR2 bW)) ?_
        refine oR (aY (bY rfl rfl) hne) ?_
        refine Rg.cB ?_
        refine rN bF 13 rfl ?_
        obtain rfl : t = false := ht.trans (decide_eq_false (aa.F4 hne))
        exact ak (aB rfl) ⟨rfl, rfl⟩ (sub (bD .nil) aw)
      ·
        refine rC bF 1 rfl ?_
        refine o1 V.mixed (by kernel_rfl) ?_
        refine rR bF 2 rfl ?_
        refine oR (xI V.cQ (by exact bE hR1 an)) ?_
        refine oR (xL V.s3 (by exact bE hR1 an)) ?_
        refine rR bF 2 rfl ?_
        refine oR (xI V.cQ (by exact bE hR2 bW)) ?_
        refine oR (xL V.s3 (by exact bE hR2 bW)) ?_
        refine oR (aA (bY rfl rfl) hne) ?_
        refine Rg.cB ?_
        refine JJ bF 9 rfl (by omega) ?_
        refine j1 (i + 1) ?_ (fZ ln) (sub (bD .nil) aw)
        exact ⟨⟨by omega, fun j hj => (Nat.lt_succ_iff_lt_or_eq.1 hj).elim (hall j) (fun e => e ▸ Classical.not_not.1 hne)⟩, by omega⟩
    ·
      refine rC bF 11 rfl ?_
      obtain rfl : t = true := ht.trans (decide_eq_true (aa.AB (by omega) (fun j hj => hall j (by omega))))
      exact ak (aB rfl) ⟨rfl, rfl⟩ (sub (bD .nil) aw)
  ·
    refine rC bF 7 rfl ?_
    refine oV (aY (bY rfl rfl) (by omega)) ?_
    refine rO bF 10 rfl ?_
    obtain rfl : t = false := ht.trans (decide_eq_false (fun e => hne0 (by rw [← hn1, ← hn2, e])))
    exact ak (aB rfl) ⟨rfl, rfl⟩ (sub (bD .nil) aw)
set_option maxHeartbeats 2000000 in
theorem zZ (h : aa.Hd) (bf : Nat) (pp : Option Addr) (pl : List Int) (cp : Nat) (pt : Option Addr) (tr : List Int) (ct : Nat) (pd : Option Addr) (nd cd : Nat) (pk : Option Addr) (nk ck : Nat) (R : ab) (hP : ∀ w0 h, R w0 h → aR U5 pp pl.length pl w0 h) (hT : ∀ w0 h, R w0 h → aR U5 pt tr.length tr w0 h) (hcp : pl.length ≤ cp) (hB : aj.av pl) (hBt : aj.av tr) (hpl : pl.length < 500000000) (htl : tr.length < 500000000) (k : Nat) (hk : pl.length / 3 ≤ k) (hkb : k < 100000000) : aE Tryz.prog 171 [.pointer (some ⟨bf, 0, none⟩), .int .i64 (k : Int)] [ao bf 90 [.int .i64 h.w, .int .i64 h.h, .int .i64 h.dep, .int .i64 h.ax, .bool h.cm, .slice pp pl.length cp, .slice pt tr.length ct, .slice pd nd cd, .slice pk nk ck], R] (aO fun v G => v = .tuple #[.agg #[.int .u16 0, .int .u16 0, .int .u16 0, .int .u16 0], .bool false] ∧ G = [ao bf 90 [.int .i64 h.w, .int .i64 h.h, .int .i64 h.dep, .int .i64 h.ax, .bool h.cm, .slice pp pl.length cp, .slice pt tr.length ct, .slice pd nd cd, .slice pk nk ck], R]) := by
  refine au [(0, _), (1, _)] Tryz.func171 rfl Tryz.ntmps171 rfl rfl ?_
  intro w0 F
  refine rT bF 2 rfl ?_
  refine cn V.pj rfl ?_
  intro b4
  refine rO bF 10 rfl ?_
  refine oV (ae V.ez rfl bW rfl) ?_
  refine oV (eu (ty' := 0) Tryz.underlying22 rfl) ?_
  refine oV (fR rfl rfl (by omega) (jH (by omega) (by omega) (by omega))) ?_
  refine oV (aY (fh rfl rfl) (by omega)) ?_
  refine rO bF 5 rfl ?_
  refine oV (kT V.tJ V.pj rfl (cs := [_, _, _, _]) rfl) ?_
  refine aT (aH V.ma rfl rfl (us := [_, _, _, _]) rfl rfl (by exact cZ) (by exact Nat.le_of_ble_eq_true rfl) rfl) ?_
  refine rO bF 5 rfl ?_
  exact ak (eZ V.ma rfl an rfl rfl) ⟨rfl, rfl⟩ (sub (.cons az (.cons az .nil)) cC)
set_option maxHeartbeats 2000000 in
theorem zT (h : aa.Hd) (bf : Nat) (pp : Option Addr) (pl : List Int) (cp : Nat) (pt : Option Addr) (tr : List Int) (ct : Nat) (pd : Option Addr) (nd cd : Nat) (pk : Option Addr) (nk ck : Nat) (R : ab) (hP : ∀ w0 h, R w0 h → aR U5 pp pl.length pl w0 h) (hT : ∀ w0 h, R w0 h → aR U5 pt tr.length tr w0 h) (hcp : pl.length ≤ cp) (hB : aj.av pl) (hBt : aj.av tr) (hpl : pl.length < 500000000) (htl : tr.length < 500000000) (k : Nat) (hk : ¬ pl.length / 3 ≤ k) : aE Tryz.prog 171 [.pointer (some ⟨bf, 0, none⟩), .int .i64 (k : Int)] [ao bf 90 [.int .i64 h.w, .int .i64 h.h, .int .i64 h.dep, .int .i64 h.ax, .bool h.cm, .slice pp pl.length cp, .slice pt tr.length ct, .slice pd nd cd, .slice pk nk ck], R] (aO fun v G => v = .tuple #[.agg #[.int .u16 ((pl.drop (3 * k)).getD 0 0 * 257), .int .u16 ((pl.drop (3 * k)).getD 1 0 * 257), .int .u16 ((pl.drop (3 * k)).getD 2 0 * 257), .int .u16 (if k < tr.length then tr.getD k 0 * 257 else 65535)], .bool true] ∧ G = [ao bf 90 [.int .i64 h.w, .int .i64 h.h, .int .i64 h.dep, .int .i64 h.ax, .bool h.cm, .slice pp pl.length cp, .slice pt tr.length ct, .slice pd nd cd, .slice pk nk ck], R]) := by
  refine au [(0, _), (1, _)] Tryz.func171 rfl Tryz.ntmps171 rfl rfl ?_
  intro w0 F
  have hBd := aa.ek hB (3 * k)
  have hS : ∀ w0 h, R w0 h → aR U5 (eh pp (3 * k) cp 1) (pl.length - 3 * k) (pl.drop (3 * k)) w0 h := gS (c := U5) hP rfl (3 * k) cp (by omega) hcp
  have hPl : (pl.drop (3 * k)).length = pl.length - 3 * k := List.length_drop
  refine rT bF 2 rfl ?_
  refine cn V.pj rfl ?_
  intro b4
  refine rO bF 10 rfl ?_
  refine oV (ae V.ez rfl bW rfl) ?_
  refine oV (eu (ty' := 0) Tryz.underlying22 rfl) ?_
  refine oV (fR rfl rfl (by omega) (jH (by omega) (by omega) (by omega))) ?_
  refine oV (aA (fh rfl rfl) (by omega)) ?_
  refine rO bF 10 rfl ?_
  refine oV (ae V.ez rfl bW rfl) ?_
  refine oV (aJ rfl) ?_
  refine oV (cH (v := .int .i64 ((3 * k : Nat) : Int)) (jF (r := 3 * (k : Int)) rfl rfl wI) (congrArg (Value.int .i64) (by omega))) ?_
  refine oV (dQ (3 * k) pl.length cp V.cy rfl ⟨_, rfl⟩ ⟨rfl, rfl⟩ rfl (by omega) (by omega) (by omega)) ?_
  refine rO bF 8 rfl ?_
  refine mE (fun (al : Int) => [(4, .pointer (some ⟨b4, 0, none⟩)), (6, .slice (eh pp (3 * k) cp 1) (pl.length - 3 * k) (cp - 3 * k)), (7, .int .u16 al)]) (fun (al : Int) => ao b4 68 [.int .u16 0, .int .u16 0, .int .u16 0, .int .u16 0] :: ao bf 90 [.int .i64 h.w, .int .i64 h.h, .int .i64 h.dep, .int .i64 h.ax, .bool h.cm, .slice pp pl.length cp, .slice pt tr.length ct, .slice pd nd cd, .slice pk nk ck] :: R :: F) (fun (al : Int) => al = (if k < tr.length then tr.getD k 0 * 257 else 65535)) ?_ ?_
  ·
    rcases (Classical.em (k < tr.length)) with hkt | hkt
    ·
      refine rL bF 6 rfl ?_
      refine oV (ae V.ez rfl bW rfl) ?_
      refine oV (eu (ty' := 0) Tryz.underlying22 rfl) ?_
      refine oV (aY (bo rfl rfl) (by omega)) ?_
      refine rO bF 7 rfl ?_
      refine oV (ae V.ez rfl bW rfl) ?_
      refine oV (aJ rfl) ?_
      refine oV (xI V.cy (by exact bE hT dH)) ?_
      refine oV (xL V.s5 (by exact bE hT dH)) ?_
      refine ai (tp (U5.g tr (k : Int)) (hBt.get k)) V.Ad  rfl .nil rfl ?_
      rintro _ _ ⟨rfl, rfl⟩
      refine rO bF 2 rfl ?_
      refine j1 (_) ?_ (jg ln) (sub (ic .nil) aw)
      exact (if_pos hkt).symm
    ·
      refine rL bF 6 rfl ?_
      refine oV (ae V.ez rfl bW rfl) ?_
      refine oV (eu (ty' := 0) Tryz.underlying22 rfl) ?_
      refine oV (aA (bo rfl rfl) (by omega)) ?_
      refine rO bF 4 rfl ?_
      refine j1 (_) ?_ (jg ln) (sub (ic .nil) aw)
      exact (if_neg hkt).symm
  ·
    intro al
    rintro hal
    refine rC bF 1 rfl ?_
    refine wN [pz 0 [] [6], pz 1 [0] [], pz 3 [1] [], pz 7 [2] [], pz 0 [] [6], pz 16 [4] [], pz 48 [5] [], pz 127 [6] [], pz 0 [] [6], pz 256 [8] [], pz 768 [9] [], pz 2047 [10] [], pz 0 [] [7], pz 8191 [3, 7, 11, 12] [], pz 16383 [13] [4], pz 32767 [] []] [⟨fun y => ao b4 68 [.int .u16 0, .int .u16 0, .int .u16 0, .int .u16 0], none, some 14, []⟩, ⟨fun y => ao bf 90 [.int .i64 h.w, .int .i64 h.h, .int .i64 h.dep, .int .i64 h.ax, .bool h.cm, .slice pp pl.length cp, .slice pt tr.length ct, .slice pd nd cd, .slice pk nk ck], none, none, []⟩, ⟨fun y => R, none, none, [1, 2, 5, 6, 9, 10]⟩, ⟨fun y => ao b4 68 [.int .u16 (U5.g (pl.drop (3 * k)) 0 * 257), .int .u16 (U5.g (pl.drop (3 * k)) 1 * 257), .int .u16 (U5.g (pl.drop (3 * k)) 2 * 257), .int .u16 al], some 14, none, []⟩] F V.mixed ?_
    refine nM ?_
    refine nR (fun y FF hA => xI V.cy (by exact bE hS an)) ?_
    refine nR (fun y FF hA => xL V.s5 (by exact bE hS an)) ?_
    refine nE (fun y FF hA => bK (Post := []) (tp (U5.g (pl.drop (3 * k)) 0) (hBd.get 0)) V.Ad rfl .nil (fun v G h => by rcases h with ⟨rfl, rfl⟩; exact ⟨rfl, .refl _⟩)) ?_
    refine nM ?_
    refine nR (fun y FF hA => xI V.cy (by exact bE hS an)) ?_
    refine nR (fun y FF hA => xL V.s5 (by exact bE hS an)) ?_
    refine nE (fun y FF hA => bK (Post := []) (tp (U5.g (pl.drop (3 * k)) 1) (hBd.get 1)) V.Ad rfl .nil (fun v G h => by rcases h with ⟨rfl, rfl⟩; exact ⟨rfl, .refl _⟩)) ?_
    refine nM ?_
    refine nR (fun y FF hA => xI V.cy (by exact bE hS an)) ?_
    refine nR (fun y FF hA => xL V.s5 (by exact bE hS an)) ?_
    refine nE (fun y FF hA => bK (Post := []) (tp (U5.g (pl.drop (3 * k)) 2) (hBd.get 2)) V.Ad rfl .nil (fun v G h => by rcases h with ⟨rfl, rfl⟩; exact ⟨rfl, .refl _⟩)) ?_
    refine nM ?_
    refine nV (fun y hA L => kT V.tJ V.pj rfl (cs := [.int .u16 (U5.g (pl.drop (3 * k)) 0 * 257), .int .u16 (U5.g (pl.drop (3 * k)) 1 * 257), .int .u16 (U5.g (pl.drop (3 * k)) 2 * 257), .int .u16 al]) (by kernel_rfl)) ?_
    refine nE (fun y FF hA => du (aH V.ma rfl rfl (us := [_, _, _, _]) rfl rfl (by exact cZ) (by exact Nat.le_of_ble_eq_true rfl) rfl) ⟨rfl, .refl _⟩) ?_
    refine nA ?_
    refine aU ?_
    intro y hA
    clear hA
    refine ba ?_
    refine bZ _ (.cons (d := 4) rfl (.cons (d := 5) rfl (.nil _))) ?_
    refine bP (M := ao bf 90 [.int .i64 h.w, .int .i64 h.h, .int .i64 h.dep, .int .i64 h.ax, .bool h.cm, .slice pp pl.length cp, .slice pt tr.length ct, .slice pd nd cd, .slice pk nk ck] :: R :: ao b4 68 [.int .u16 (U5.g (pl.drop (3 * k)) 0 * 257), .int .u16 (U5.g (pl.drop (3 * k)) 1 * 257), .int .u16 (U5.g (pl.drop (3 * k)) 2 * 257), .int .u16 al] :: F) (fun _ _ h => h) ?_
    refine rC bF 1 rfl ?_
    exact ak (eZ V.ma rfl dH rfl rfl) ⟨by rw [← hal]; rfl, rfl⟩ (sub (bD .nil) cC)
set_option maxHeartbeats 4000000 in
theorem A9 (h : aa.Hd) (bf : Nat) (pp : Option Addr) (pl : List Int) (cp : Nat) (pt : Option Addr) (tr : List Int) (ct : Nat) (pd : Option Addr) (nd cd : Nat) (pk : Option Addr) (ck : Nat) (R : ab) (hP : ∀ w0 h, R w0 h → aR U5 pp pl.length pl w0 h) (hT : ∀ w0 h, R w0 h → aR U5 pt tr.length tr w0 h) (hcp : pl.length ≤ cp) (hB : aj.av pl) (hBt : aj.av tr) (hpl : pl.length < 500000000) (htl : tr.length < 500000000) (pv : Option Addr) (cv : Nat) (v : List Int) (Rk Rv : ab) (hRk : ∀ w0 h_, Rk w0 h_ → aR (aP 3 .i64) pk (aa.bA h tr).length (aa.bA h tr) w0 h_) (hRv : ∀ w0 h_, Rv w0 h_ → aR (aP 3 .i64) pv v.length v w0 h_) (hf : aa.gq ⟨h, pl, tr⟩) (hvl : v.length = (aa.parts h.ax).toNat) (hvx : ∀ x ∈ v, 0 ≤ x ∧ x < 2 ^ h.dep.toNat) (h3 : h.ax = 3) (k : Nat) (hk0 : v.getD 0 0 = (k : Int)) (hkb : k < 100000000) (hk : pl.length / 3 ≤ k) : aE Tryz.prog 151 [.pointer (some ⟨bf, 0, none⟩), .slice pv v.length cv] [ao bf 90 [.int .i64 h.w, .int .i64 h.h, .int .i64 h.dep, .int .i64 h.ax, .bool h.cm, .slice pp pl.length cp, .slice pt tr.length ct, .slice pd nd cd, .slice pk (aa.bA h tr).length ck], Rk, Rv, R] (aO fun e G => e = .tuple #[.agg #[.int .u16 0, .int .u16 0, .int .u16 0, .int .u16 0], .bool false] ∧ G = [ao bf 90 [.int .i64 h.w, .int .i64 h.h, .int .i64 h.dep, .int .i64 h.ax, .bool h.cm, .slice pp pl.length cp, .slice pt tr.length ct, .slice pd nd cd, .slice pk (aa.bA h tr).length ck], Rk, Rv, R]) := by
  refine au [(0, _), (1, _)] Tryz.func151 rfl Tryz.ntmps151 rfl rfl ?_
  intro w0 F
  have hde : aa.deep h.ax h.dep := by unfold aa.gq at hf; exact hf.1
  have hpc := aa.ie hde
  have hd := aa.iA hde
  have hUl : (v.map (aa.up h.dep)).length = v.length := List.length_map ..
  have hdi := aa.jM hd
  refine rT bF 2 rfl ?_
  refine cn V.pj rfl ?_
  intro b4
  refine rO bF 10 rfl ?_
  refine oV (ae V.s3 rfl bW rfl) ?_
  refine oV (aY (aD rfl rfl) (by omega)) ?_
  refine rO bF 7 rfl ?_
  refine oV (xI V.cQ (by exact bE hRv eI)) ?_
  refine oV (xL V.s3 (by exact bE hRv eI)) ?_
  rw [show (aP 3 .i64).g v 0 = (k : Int) from hk0]
  refine ai (zZ h bf pp pl cp pt tr ct pd nd cd pk (aa.bA h tr).length ck R hP hT hcp hB hBt hpl htl k hk (by omega)) V.JC  rfl (.cons az (.cons ed .nil)) rfl ?_
  rintro _ _ ⟨rfl, rfl⟩
  refine rO bF 2 rfl ?_
  refine aT (aH V.ma rfl rfl (us := [_, _, _, _]) rfl rfl (by exact nb) (by exact Nat.le_of_ble_eq_true rfl) rfl) ?_
  refine rO bF 5 rfl ?_
  exact ak (eZ V.ma rfl dH rfl rfl) ⟨rfl, rfl⟩ (sub (ar (.cons bX (.cons bX (.cons dS .nil)))) cC)
set_option maxHeartbeats 4000000 in
theorem CB (h : aa.Hd) (bf : Nat) (pp : Option Addr) (pl : List Int) (cp : Nat) (pt : Option Addr) (tr : List Int) (ct : Nat) (pd : Option Addr) (nd cd : Nat) (pk : Option Addr) (ck : Nat) (R : ab) (hP : ∀ w0 h, R w0 h → aR U5 pp pl.length pl w0 h) (hT : ∀ w0 h, R w0 h → aR U5 pt tr.length tr w0 h) (hcp : pl.length ≤ cp) (hB : aj.av pl) (hBt : aj.av tr) (hpl : pl.length < 500000000) (htl : tr.length < 500000000) (pv : Option Addr) (cv : Nat) (v : List Int) (Rk Rv : ab) (hRk : ∀ w0 h_, Rk w0 h_ → aR (aP 3 .i64) pk (aa.bA h tr).length (aa.bA h tr) w0 h_) (hRv : ∀ w0 h_, Rv w0 h_ → aR (aP 3 .i64) pv v.length v w0 h_) (hf : aa.gq ⟨h, pl, tr⟩) (hvl : v.length = (aa.parts h.ax).toNat) (hvx : ∀ x ∈ v, 0 ≤ x ∧ x < 2 ^ h.dep.toNat) (h3 : h.ax = 3) (k : Nat) (hk0 : v.getD 0 0 = (k : Int)) (hkb : k < 100000000) (hk : ¬ pl.length / 3 ≤ k) : aE Tryz.prog 151 [.pointer (some ⟨bf, 0, none⟩), .slice pv v.length cv] [ao bf 90 [.int .i64 h.w, .int .i64 h.h, .int .i64 h.dep, .int .i64 h.ax, .bool h.cm, .slice pp pl.length cp, .slice pt tr.length ct, .slice pd nd cd, .slice pk (aa.bA h tr).length ck], Rk, Rv, R] (aO fun e G => e = .tuple #[.agg #[.int .u16 ((pl.drop (3 * k)).getD 0 0 * 257), .int .u16 ((pl.drop (3 * k)).getD 1 0 * 257), .int .u16 ((pl.drop (3 * k)).getD 2 0 * 257), .int .u16 (if k < tr.length then tr.getD k 0 * 257 else 65535)], .bool true] ∧ G = [ao bf 90 [.int .i64 h.w, .int .i64 h.h, .int .i64 h.dep, .int .i64 h.ax, .bool h.cm, .slice pp pl.length cp, .slice pt tr.length ct, .slice pd nd cd, .slice pk (aa.bA h tr).length ck], Rk, Rv, R]) := by
  refine au [(0, _), (1, _)] Tryz.func151 rfl Tryz.ntmps151 rfl rfl ?_
  intro w0 F
  have hde : aa.deep h.ax h.dep := by unfold aa.gq at hf; exact hf.1
  have hpc := aa.ie hde
  have hd := aa.iA hde
  have hUl : (v.map (aa.up h.dep)).length = v.length := List.length_map ..
  have hdi := aa.jM hd
  refine rT bF 2 rfl ?_
  refine cn V.pj rfl ?_
  intro b4
  refine rO bF 10 rfl ?_
  refine oV (ae V.s3 rfl bW rfl) ?_
  refine oV (aY (aD rfl rfl) (by omega)) ?_
  refine rO bF 7 rfl ?_
  refine oV (xI V.cQ (by exact bE hRv eI)) ?_
  refine oV (xL V.s3 (by exact bE hRv eI)) ?_
  rw [show (aP 3 .i64).g v 0 = (k : Int) from hk0]
  refine ai (zT h bf pp pl cp pt tr ct pd nd cd pk (aa.bA h tr).length ck R hP hT hcp hB hBt hpl htl k hk) V.JC  rfl (.cons az (.cons ed .nil)) rfl ?_
  rintro _ _ ⟨rfl, rfl⟩
  refine rO bF 2 rfl ?_
  refine aT (aH V.ma rfl rfl (us := [_, _, _, _]) rfl rfl (by exact nb) (by exact Nat.le_of_ble_eq_true rfl) rfl) ?_
  refine rO bF 5 rfl ?_
  exact ak (eZ V.ma rfl dH rfl rfl) ⟨rfl, rfl⟩ (sub (ar (.cons bX (.cons bX (.cons dS .nil)))) cC)
set_option maxHeartbeats 4000000 in
theorem As (h : aa.Hd) (bf : Nat) (pp : Option Addr) (pl : List Int) (cp : Nat) (pt : Option Addr) (tr : List Int) (ct : Nat) (pd : Option Addr) (nd cd : Nat) (pk : Option Addr) (ck : Nat) (R : ab) (hP : ∀ w0 h, R w0 h → aR U5 pp pl.length pl w0 h) (hT : ∀ w0 h, R w0 h → aR U5 pt tr.length tr w0 h) (hcp : pl.length ≤ cp) (hB : aj.av pl) (hBt : aj.av tr) (hpl : pl.length < 500000000) (htl : tr.length < 500000000) (pv : Option Addr) (cv : Nat) (v : List Int) (Rk Rv : ab) (hRk : ∀ w0 h_, Rk w0 h_ → aR (aP 3 .i64) pk (aa.bA h tr).length (aa.bA h tr) w0 h_) (hRv : ∀ w0 h_, Rv w0 h_ → aR (aP 3 .i64) pv v.length v w0 h_) (hf : aa.gq ⟨h, pl, tr⟩) (hvl : v.length = (aa.parts h.ax).toNat) (hvx : ∀ x ∈ v, 0 ≤ x ∧ x < 2 ^ h.dep.toNat) (h3 : ¬ h.ax = 3) (c0 c1 c2 c3 : Int) (hpx : aa.iX ⟨h, pl, tr⟩ v = some [c0, c1, c2, c3]) : aE Tryz.prog 151 [.pointer (some ⟨bf, 0, none⟩), .slice pv v.length cv] [ao bf 90 [.int .i64 h.w, .int .i64 h.h, .int .i64 h.dep, .int .i64 h.ax, .bool h.cm, .slice pp pl.length cp, .slice pt tr.length ct, .slice pd nd cd, .slice pk (aa.bA h tr).length ck], Rk, Rv, R] (aO fun e G => e = .tuple #[.agg #[.int .u16 c0, .int .u16 c1, .int .u16 c2, .int .u16 c3], .bool true] ∧ G = [ao bf 90 [.int .i64 h.w, .int .i64 h.h, .int .i64 h.dep, .int .i64 h.ax, .bool h.cm, .slice pp pl.length cp, .slice pt tr.length ct, .slice pd nd cd, .slice pk (aa.bA h tr).length ck], Rk, Rv, R]) := by
  refine au [(0, _), (1, _)] Tryz.func151 rfl Tryz.ntmps151 rfl rfl ?_
  intro w0 F
  have hde : aa.deep h.ax h.dep := by unfold aa.gq at hf; exact hf.1
  have hpc := aa.ie hde
  have hd := aa.iA hde
  have hUl : (v.map (aa.up h.dep)).length = v.length := List.length_map ..
  have hdi := aa.jM hd
  refine rT bF 2 rfl ?_
  refine cn V.pj rfl ?_
  intro b4
  refine rO bF 10 rfl ?_
  refine oV (ae V.s3 rfl bW rfl) ?_
  refine oV (aA (aD rfl rfl) (by omega)) ?_
  refine rO bF 19 rfl ?_
  refine gT (Row (aP 62 .u16) none 0 0 []) (Row.nil _ _ _) ?_
  rw [show ([] : List Int) = (v.map (aa.up h.dep)).take 0 from rfl]
  refine jS (fun (i : Nat) (ps : Option Addr) (cs : Nat) => [(0, .pointer (some ⟨bf, 0, none⟩)), (1, .slice pv v.length cv), (4, .pointer (some ⟨b4, 0, none⟩)), (6, .slice ps i cs), (25, .slice pv v.length cv), (26, .int .i64 (v.length : Int)), (27, .int .i64 (i : Int))]) (fun (i : Nat) (ps : Option Addr) (cs : Nat) => Row (aP 62 .u16) ps i cs ((v.map (aa.up h.dep)).take i) :: ao b4 68 [.int .u16 0, .int .u16 0, .int .u16 0, .int .u16 0] :: ao bf 90 [.int .i64 h.w, .int .i64 h.h, .int .i64 h.dep, .int .i64 h.ax, .bool h.cm, .slice pp pl.length cp, .slice pt tr.length ct, .slice pd nd cd, .slice pk (aa.bA h tr).length ck] :: Rk :: Rv :: R :: F) (fun (i : Nat) (ps : Option Addr) (cs : Nat) => i ≤ v.length) (fun (i : Nat) (ps : Option Addr) (cs : Nat) => v.length - i) (i3 (0) (none) (0) ?_ (ku (dp ln)) (sub (ar (pc .nil)) aw)) ?_
  ·
    exact Nat.zero_le _
  intro i ps cs
  rintro hi
  refine rL bF 6 rfl ?_
  refine aN rfl (fun h28 => ?_) (fun h28 => ?_)
  ·
    refine rC bF 5 rfl ?_
    have hvi : 0 ≤ ((aP 3 .i64).g v (i : Int)) ∧ ((aP 3 .i64).g v (i : Int)) < 2 ^ h.dep.toNat := hvx _ (aa.ja (by omega))
    refine a7 ?_
    refine oV (xI V.cQ (by exact bE hRv jz)) ?_
    refine oV (xL V.s3 (by exact bE hRv jz)) ?_
    refine rO bF 10 rfl ?_
    refine oV (ae V.s3 rfl dH rfl) ?_
    refine ai (IV h.dep ((aP 3 .i64).g v (i : Int)) hd hvi) V.Iu  rfl .nil rfl ?_
    rintro _ _ ⟨rfl, rfl⟩
    refine rO bF 10 rfl ?_
    refine eb (aP 62 .u16) [(aa.up h.dep ((aP 3 .i64).g v (i : Int)))] V.hI V.Fy rfl rfl rfl rfl rfl rfl ?_
    intro b43
    refine ef (c := (aP 62 .u16)) V.hI V.Fy rfl rfl rfl rfl az (own an) (by omega) rfl ?_
    intro p44 c44
    refine cS bF 8 rfl (by omega) ?_
    rw [show (v.map (aa.up h.dep)).take i ++ [aa.up h.dep ((aP 3 .i64).g v (i : Int))] = (v.map (aa.up h.dep)).take (i + 1) from aa.Aj (by omega)]
    exact j3 (i + 1) _ _ ⟨by omega, by omega⟩ (ku (dp ln)) (sub (ar (.cons az (.cons az (.cons az (.cons az (.cons az .nil)))))) cC)
  ·
    refine rC bF 6 rfl ?_
    obtain rfl : i = v.length := by omega
    rw [List.take_of_length_le (by omega)]
    refine rC bF 4 rfl ?_
    refine mE (fun (al : Int) => [(0, .pointer (some ⟨bf, 0, none⟩)), (1, .slice pv v.length cv), (4, .pointer (some ⟨b4, 0, none⟩)), (6, .slice ps v.length cs), (11, .int .u16 al)]) (fun (al : Int) => Row (aP 62 .u16) ps v.length cs (v.map (aa.up h.dep)) :: ao b4 68 [.int .u16 0, .int .u16 0, .int .u16 0, .int .u16 0] :: ao bf 90 [.int .i64 h.w, .int .i64 h.h, .int .i64 h.dep, .int .i64 h.ax, .bool h.cm, .slice pp pl.length cp, .slice pt tr.length ct, .slice pd nd cd, .slice pk (aa.bA h tr).length ck] :: Rk :: Rv :: R :: F) (fun (al : Int) => al = (if h.ax = 4 ∨ h.ax = 6 then (v.map (aa.up h.dep)).getD ((v.map (aa.up h.dep)).length - 1) 0 else 65535)) ?_ ?_
    ·
      rcases ((by omega : h.ax = 4 ∨ (¬ h.ax = 4 ∧ h.ax = 6) ∨ (¬ h.ax = 4 ∧ ¬ h.ax = 6))) with a1 | ⟨a1, a2⟩ | ⟨a1, a2⟩
      ·
        refine rL bF 6 rfl ?_
        refine oV (ae V.s3 rfl dH rfl) ?_
        refine oV (aY (aD rfl rfl) a1) ?_
        refine cS bF 16 rfl (by omega) ?_
        refine oV (xI V.hI (own an)) ?_
        refine oV (xL V.lC (own an)) ?_
        refine rO bF 2 rfl ?_
        refine j1 (_) ?_ (dp ln) (sub (ar (pc .nil)) aw)
        (rw [if_pos (by omega), hUl]; exact gE (v.length - 1) (by omega))
      ·
        refine rL bF 6 rfl ?_
        refine oV (ae V.s3 rfl dH rfl) ?_
        refine oV (aA (aD rfl rfl) a1) ?_
        refine rO bF 5 rfl ?_
        refine ag rfl ?_
        refine oV (ae V.s3 rfl dH rfl) ?_
        refine ag rfl ?_
        refine oV (aY (aD rfl rfl) a2) ?_
        refine cS bF 9 rfl (by omega) ?_
        refine oV (xI V.hI (own an)) ?_
        refine oV (xL V.lC (own an)) ?_
        refine rO bF 2 rfl ?_
        refine j1 (_) ?_ (dp ln) (sub (ar (pc .nil)) aw)
        (rw [if_pos (by omega), hUl]; exact gE (v.length - 1) (by omega))
      ·
        refine rL bF 6 rfl ?_
        refine oV (ae V.s3 rfl dH rfl) ?_
        refine oV (aA (aD rfl rfl) a1) ?_
        refine rO bF 5 rfl ?_
        refine ag rfl ?_
        refine oV (ae V.s3 rfl dH rfl) ?_
        refine ag rfl ?_
        refine oV (aA (aD rfl rfl) a2) ?_
        refine rO bF 5 rfl ?_
        refine j1 (_) ?_ (dp ln) (sub (ar (pc .nil)) aw)
        (rw [if_neg (by omega)]; done)
    ·
      intro al
      rintro hal
      refine mE (fun (al2 : Int) => [(0, .pointer (some ⟨bf, 0, none⟩)), (4, .pointer (some ⟨b4, 0, none⟩)), (6, .slice ps v.length cs), (11, .int .u16 al2)]) (fun (al2 : Int) => Row (aP 62 .u16) ps v.length cs (v.map (aa.up h.dep)) :: ao b4 68 [.int .u16 0, .int .u16 0, .int .u16 0, .int .u16 0] :: ao bf 90 [.int .i64 h.w, .int .i64 h.h, .int .i64 h.dep, .int .i64 h.ax, .bool h.cm, .slice pp pl.length cp, .slice pt tr.length ct, .slice pd nd cd, .slice pk (aa.bA h tr).length ck] :: Rk :: Rv :: R :: F) (fun (al2 : Int) => al2 = aa.pM ⟨h, pl, tr⟩ v) ?_ ?_
      ·
        rcases ((by by_cases q : 0 < (aa.bA h tr).length; by_cases q2 : v = (aa.bA h tr); exact .inr (.inl ⟨q, q2⟩); exact .inr (.inr ⟨q, q2⟩); exact .inl q : ¬ 0 < (aa.bA h tr).length ∨ (0 < (aa.bA h tr).length ∧ v = (aa.bA h tr)) ∨ (0 < (aa.bA h tr).length ∧ ¬ v = (aa.bA h tr)))) with b1 | ⟨b1, b2⟩ | ⟨b1, b2⟩
        ·
          refine rL bF 5 rfl ?_
          refine oV (ae V.kV rfl dH rfl) ?_
          refine oV (eu (ty' := 0) Tryz.underlying47 rfl) ?_
          refine oV (aA (a8 rfl rfl) (by omega)) ?_
          refine rO bF 12 rfl ?_
          refine j1 (_) ?_ (fZ ln) (sub (ar (pc .nil)) aw)
          (unfold aa.pM; rw [if_neg (fun q => b1 q.1)]; exact hal)
        ·
          refine rL bF 5 rfl ?_
          refine oV (ae V.kV rfl dH rfl) ?_
          refine oV (eu (ty' := 0) Tryz.underlying47 rfl) ?_
          refine oV (aY (a8 rfl rfl) (by omega)) ?_
          refine rO bF 5 rfl ?_
          refine ag rfl ?_
          refine oV (ae V.kV rfl dH rfl) ?_
          refine ag rfl ?_
          refine ai (yI pv v.length cv v rfl Rv hRv pk (aa.bA h tr).length ck (aa.bA h tr) rfl Rk hRk (by omega) true (decide_eq_true b2).symm) V.KG  rfl (.cons jA (.cons ed .nil)) rfl ?_
          rintro _ _ ⟨rfl, rfl⟩
          refine rO bF 7 rfl ?_
          refine j1 (_) ?_ (fZ ln) (sub (.cons bX (.cons bX (.cons bX (.cons az (bD .nil))))) aw)
          (unfold aa.pM; rw [if_pos ⟨b1, b2⟩]; done)
        ·
          refine rL bF 5 rfl ?_
          refine oV (ae V.kV rfl dH rfl) ?_
          refine oV (eu (ty' := 0) Tryz.underlying47 rfl) ?_
          refine oV (aY (a8 rfl rfl) (by omega)) ?_
          refine rO bF 5 rfl ?_
          refine ag rfl ?_
          refine oV (ae V.kV rfl dH rfl) ?_
          refine ag rfl ?_
          refine ai (yI pv v.length cv v rfl Rv hRv pk (aa.bA h tr).length ck (aa.bA h tr) rfl Rk hRk (by omega) false (decide_eq_false b2).symm) V.KG  rfl (.cons jA (.cons ed .nil)) rfl ?_
          rintro _ _ ⟨rfl, rfl⟩
          refine rO bF 5 rfl ?_
          refine j1 (_) ?_ (fZ ln) (sub (.cons bX (.cons bX (.cons bX (.cons az (bD .nil))))) aw)
          (unfold aa.pM; rw [if_neg (fun q => b2 q.2)]; exact hal)
      ·
        intro al2
        rintro hal2
        rcases ((by omega : h.ax = 0 ∨ (¬ h.ax = 0 ∧ h.ax = 4) ∨ (¬ h.ax = 0 ∧ ¬ h.ax = 4))) with a1 | ⟨a1, a2⟩ | ⟨a1, a2⟩
        ·
          refine rC bF 7 rfl ?_
          refine oV (ae V.s3 rfl dH rfl) ?_
          refine oV (aY (aD rfl rfl) a1) ?_
          refine rO bF 12 rfl ?_
          refine wN [pz 0 [] [6], pz 1 [0] [], pz 3 [1] [], pz 0 [] [6], pz 8 [3] [], pz 24 [4] [], pz 0 [] [6], pz 64 [6] [], pz 192 [7] [], pz 0 [] [11], pz 1023 [2, 5, 8, 9] [], pz 2047 [10] [4], pz 4095 [] []] [⟨fun y => Row (aP 62 .u16) ps v.length cs (v.map (aa.up h.dep)), none, none, [1, 2, 4, 5, 7, 8]⟩, ⟨fun y => ao b4 68 [.int .u16 0, .int .u16 0, .int .u16 0, .int .u16 0], none, some 11, []⟩, ⟨fun y => ao bf 90 [.int .i64 h.w, .int .i64 h.h, .int .i64 h.dep, .int .i64 h.ax, .bool h.cm, .slice pp pl.length cp, .slice pt tr.length ct, .slice pd nd cd, .slice pk (aa.bA h tr).length ck], none, none, []⟩, ⟨fun y => Rk, none, none, []⟩, ⟨fun y => Rv, none, none, []⟩, ⟨fun y => R, none, none, []⟩, ⟨fun y => ao b4 68 [.int .u16 ((aP 62 .u16).g (v.map (aa.up h.dep)) 0), .int .u16 ((aP 62 .u16).g (v.map (aa.up h.dep)) 0), .int .u16 ((aP 62 .u16).g (v.map (aa.up h.dep)) 0), .int .u16 al2], some 11, none, []⟩] F V.mixed ?_
          refine nM ?_
          refine nR (fun y FF hA => xI V.hI (own an)) ?_
          refine nR (fun y FF hA => xL V.lC (own an)) ?_
          refine nM ?_
          refine nR (fun y FF hA => xI V.hI (own an)) ?_
          refine nR (fun y FF hA => xL V.lC (own an)) ?_
          refine nM ?_
          refine nR (fun y FF hA => xI V.hI (own an)) ?_
          refine nR (fun y FF hA => xL V.lC (own an)) ?_
          refine nM ?_
          refine nV (fun y hA L => kT V.tJ V.pj rfl (cs := [.int .u16 ((aP 62 .u16).g (v.map (aa.up h.dep)) 0), .int .u16 ((aP 62 .u16).g (v.map (aa.up h.dep)) 0), .int .u16 ((aP 62 .u16).g (v.map (aa.up h.dep)) 0), .int .u16 al2]) (by kernel_rfl)) ?_
          refine nE (fun y FF hA => du (aH V.ma rfl rfl (us := [_, _, _, _]) rfl rfl (by exact cZ) (by exact Nat.le_of_ble_eq_true rfl) rfl) ⟨rfl, .refl _⟩) ?_
          refine nA ?_
          refine aU ?_
          intro y hA
          clear hA
          refine ba ?_
          refine bZ _ (.cons (d := 4) rfl (.cons (d := 5) rfl (.nil _))) ?_
          refine bP (M := Row (aP 62 .u16) ps v.length cs (v.map (aa.up h.dep)) :: ao bf 90 [.int .i64 h.w, .int .i64 h.h, .int .i64 h.dep, .int .i64 h.ax, .bool h.cm, .slice pp pl.length cp, .slice pt tr.length ct, .slice pd nd cd, .slice pk (aa.bA h tr).length ck] :: Rk :: Rv :: R :: ao b4 68 [.int .u16 ((aP 62 .u16).g (v.map (aa.up h.dep)) 0), .int .u16 ((aP 62 .u16).g (v.map (aa.up h.dep)) 0), .int .u16 ((aP 62 .u16).g (v.map (aa.up h.dep)) 0), .int .u16 al2] :: F) (fun _ _ h => h) ?_
          refine bP (sub .nil (.skip (.keep (.keep (.keep (.keep (.keep .refl))))))) ?_
          simp only [List.nil_append]
          refine rC bF 2 rfl ?_
          obtain ⟨e0, e1, e2, e3⟩ := aa.u9 ((aa.yn (f := ⟨h, pl, tr⟩) (v := v) (show h.ax = 0 ∨ h.ax = 4 from by omega)).symm.trans hpx)
          exact ak (eZ V.ma rfl jz rfl rfl) ⟨by rw [← e0, ← e1, ← e2, ← e3, hal2]; rfl, rfl⟩ (sub (ny .nil) cC)
        ·
          refine rC bF 7 rfl ?_
          refine oV (ae V.s3 rfl dH rfl) ?_
          refine oV (aA (aD rfl rfl) a1) ?_
          refine rO bF 5 rfl ?_
          refine ag rfl ?_
          refine oV (ae V.s3 rfl dH rfl) ?_
          refine ag rfl ?_
          refine oV (aY (aD rfl rfl) a2) ?_
          refine rO bF 5 rfl ?_
          refine wN [pz 0 [] [6], pz 1 [0] [], pz 3 [1] [], pz 0 [] [6], pz 8 [3] [], pz 24 [4] [], pz 0 [] [6], pz 64 [6] [], pz 192 [7] [], pz 0 [] [11], pz 1023 [2, 5, 8, 9] [], pz 2047 [10] [4], pz 4095 [] []] [⟨fun y => Row (aP 62 .u16) ps v.length cs (v.map (aa.up h.dep)), none, none, [1, 2, 4, 5, 7, 8]⟩, ⟨fun y => ao b4 68 [.int .u16 0, .int .u16 0, .int .u16 0, .int .u16 0], none, some 11, []⟩, ⟨fun y => ao bf 90 [.int .i64 h.w, .int .i64 h.h, .int .i64 h.dep, .int .i64 h.ax, .bool h.cm, .slice pp pl.length cp, .slice pt tr.length ct, .slice pd nd cd, .slice pk (aa.bA h tr).length ck], none, none, []⟩, ⟨fun y => Rk, none, none, []⟩, ⟨fun y => Rv, none, none, []⟩, ⟨fun y => R, none, none, []⟩, ⟨fun y => ao b4 68 [.int .u16 ((aP 62 .u16).g (v.map (aa.up h.dep)) 0), .int .u16 ((aP 62 .u16).g (v.map (aa.up h.dep)) 0), .int .u16 ((aP 62 .u16).g (v.map (aa.up h.dep)) 0), .int .u16 al2], some 11, none, []⟩] F V.mixed ?_
          refine nM ?_
          refine nR (fun y FF hA => xI V.hI (own an)) ?_
          refine nR (fun y FF hA => xL V.lC (own an)) ?_
          refine nM ?_
          refine nR (fun y FF hA => xI V.hI (own an)) ?_
          refine nR (fun y FF hA => xL V.lC (own an)) ?_
          refine nM ?_
          refine nR (fun y FF hA => xI V.hI (own an)) ?_
          refine nR (fun y FF hA => xL V.lC (own an)) ?_
          refine nM ?_
          refine nV (fun y hA L => kT V.tJ V.pj rfl (cs := [.int .u16 ((aP 62 .u16).g (v.map (aa.up h.dep)) 0), .int .u16 ((aP 62 .u16).g (v.map (aa.up h.dep)) 0), .int .u16 ((aP 62 .u16).g (v.map (aa.up h.dep)) 0), .int .u16 al2]) (by kernel_rfl)) ?_
          refine nE (fun y FF hA => du (aH V.ma rfl rfl (us := [_, _, _, _]) rfl rfl (by exact cZ) (by exact Nat.le_of_ble_eq_true rfl) rfl) ⟨rfl, .refl _⟩) ?_
          refine nA ?_
          refine aU ?_
          intro y hA
          clear hA
          refine ba ?_
          refine bZ _ (.cons (d := 4) rfl (.cons (d := 5) rfl (.nil _))) ?_
          refine bP (M := Row (aP 62 .u16) ps v.length cs (v.map (aa.up h.dep)) :: ao bf 90 [.int .i64 h.w, .int .i64 h.h, .int .i64 h.dep, .int .i64 h.ax, .bool h.cm, .slice pp pl.length cp, .slice pt tr.length ct, .slice pd nd cd, .slice pk (aa.bA h tr).length ck] :: Rk :: Rv :: R :: ao b4 68 [.int .u16 ((aP 62 .u16).g (v.map (aa.up h.dep)) 0), .int .u16 ((aP 62 .u16).g (v.map (aa.up h.dep)) 0), .int .u16 ((aP 62 .u16).g (v.map (aa.up h.dep)) 0), .int .u16 al2] :: F) (fun _ _ h => h) ?_
          refine bP (sub .nil (.skip (.keep (.keep (.keep (.keep (.keep .refl))))))) ?_
          simp only [List.nil_append]
          refine rC bF 2 rfl ?_
          obtain ⟨e0, e1, e2, e3⟩ := aa.u9 ((aa.yn (f := ⟨h, pl, tr⟩) (v := v) (show h.ax = 0 ∨ h.ax = 4 from by omega)).symm.trans hpx)
          exact ak (eZ V.ma rfl jz rfl rfl) ⟨by rw [← e0, ← e1, ← e2, ← e3, hal2]; rfl, rfl⟩ (sub (ny .nil) cC)
        ·
          refine rC bF 7 rfl ?_
          refine oV (ae V.s3 rfl dH rfl) ?_
          refine oV (aA (aD rfl rfl) a1) ?_
          refine rO bF 5 rfl ?_
          refine ag rfl ?_
          refine oV (ae V.s3 rfl dH rfl) ?_
          refine ag rfl ?_
          refine oV (aA (aD rfl rfl) a2) ?_
          refine rO bF 7 rfl ?_
          refine wN [pz 0 [] [6], pz 1 [0] [], pz 3 [1] [], pz 0 [] [6], pz 8 [3] [], pz 24 [4] [], pz 0 [] [6], pz 64 [6] [], pz 192 [7] [], pz 0 [] [11], pz 1023 [2, 5, 8, 9] [], pz 2047 [10] [4], pz 4095 [] []] [⟨fun y => Row (aP 62 .u16) ps v.length cs (v.map (aa.up h.dep)), none, none, [1, 2, 4, 5, 7, 8]⟩, ⟨fun y => ao b4 68 [.int .u16 0, .int .u16 0, .int .u16 0, .int .u16 0], none, some 11, []⟩, ⟨fun y => ao bf 90 [.int .i64 h.w, .int .i64 h.h, .int .i64 h.dep, .int .i64 h.ax, .bool h.cm, .slice pp pl.length cp, .slice pt tr.length ct, .slice pd nd cd, .slice pk (aa.bA h tr).length ck], none, none, []⟩, ⟨fun y => Rk, none, none, []⟩, ⟨fun y => Rv, none, none, []⟩, ⟨fun y => R, none, none, []⟩, ⟨fun y => ao b4 68 [.int .u16 ((aP 62 .u16).g (v.map (aa.up h.dep)) 0), .int .u16 ((aP 62 .u16).g (v.map (aa.up h.dep)) 1), .int .u16 ((aP 62 .u16).g (v.map (aa.up h.dep)) 2), .int .u16 al2], some 11, none, []⟩] F V.mixed ?_
          refine nM ?_
          refine nR (fun y FF hA => xI V.hI (own an)) ?_
          refine nR (fun y FF hA => xL V.lC (own an)) ?_
          refine nM ?_
          refine nR (fun y FF hA => xI V.hI (own an)) ?_
          refine nR (fun y FF hA => xL V.lC (own an)) ?_
          refine nM ?_
          refine nR (fun y FF hA => xI V.hI (own an)) ?_
          refine nR (fun y FF hA => xL V.lC (own an)) ?_
          refine nM ?_
          refine nV (fun y hA L => kT V.tJ V.pj rfl (cs := [.int .u16 ((aP 62 .u16).g (v.map (aa.up h.dep)) 0), .int .u16 ((aP 62 .u16).g (v.map (aa.up h.dep)) 1), .int .u16 ((aP 62 .u16).g (v.map (aa.up h.dep)) 2), .int .u16 al2]) (by kernel_rfl)) ?_
          refine nE (fun y FF hA => du (aH V.ma rfl rfl (us := [_, _, _, _]) rfl rfl (by exact cZ) (by exact Nat.le_of_ble_eq_true rfl) rfl) ⟨rfl, .refl _⟩) ?_
          refine nA ?_
          refine aU ?_
          intro y hA
          clear hA
          refine ba ?_
          refine bZ _ (.cons (d := 4) rfl (.cons (d := 5) rfl (.nil _))) ?_
          refine bP (M := Row (aP 62 .u16) ps v.length cs (v.map (aa.up h.dep)) :: ao bf 90 [.int .i64 h.w, .int .i64 h.h, .int .i64 h.dep, .int .i64 h.ax, .bool h.cm, .slice pp pl.length cp, .slice pt tr.length ct, .slice pd nd cd, .slice pk (aa.bA h tr).length ck] :: Rk :: Rv :: R :: ao b4 68 [.int .u16 ((aP 62 .u16).g (v.map (aa.up h.dep)) 0), .int .u16 ((aP 62 .u16).g (v.map (aa.up h.dep)) 1), .int .u16 ((aP 62 .u16).g (v.map (aa.up h.dep)) 2), .int .u16 al2] :: F) (fun _ _ h => h) ?_
          refine bP (sub .nil (.skip (.keep (.keep (.keep (.keep (.keep .refl))))))) ?_
          simp only [List.nil_append]
          refine rC bF 1 rfl ?_
          obtain ⟨e0, e1, e2, e3⟩ := aa.u9 ((aa.H5 (f := ⟨h, pl, tr⟩) (v := v) (show ¬ (h.ax = 0 ∨ h.ax = 4) from by omega) h3).symm.trans hpx)
          exact ak (eZ V.ma rfl jz rfl rfl) ⟨by rw [← e0, ← e1, ← e2, ← e3, hal2]; rfl, rfl⟩ (sub (ny .nil) cC)
theorem Da (h : aa.Hd) (bf : Nat) (pp : Option Addr) (pl : List Int) (cp : Nat) (pt : Option Addr) (tr : List Int) (ct : Nat) (pd : Option Addr) (nd cd : Nat) (pk : Option Addr) (ck : Nat) (R : ab) (hP : ∀ w0 h, R w0 h → aR U5 pp pl.length pl w0 h) (hT : ∀ w0 h, R w0 h → aR U5 pt tr.length tr w0 h) (hcp : pl.length ≤ cp) (hB : aj.av pl) (hBt : aj.av tr) (hpl : pl.length < 500000000) (htl : tr.length < 500000000) (pv : Option Addr) (cv : Nat) (v : List Int) (Rk Rv : ab) (hRk : ∀ w0 h_, Rk w0 h_ → aR (aP 3 .i64) pk (aa.bA h tr).length (aa.bA h tr) w0 h_) (hRv : ∀ w0 h_, Rv w0 h_ → aR (aP 3 .i64) pv v.length v w0 h_) (hf : aa.gq ⟨h, pl, tr⟩) (hvl : v.length = (aa.parts h.ax).toNat) (hvx : ∀ x ∈ v, 0 ≤ x ∧ x < 2 ^ h.dep.toNat) (hk2 : v.getD 0 0 < 100000000) (hpx : aa.iX ⟨h, pl, tr⟩ v = none) : aE Tryz.prog 151 [.pointer (some ⟨bf, 0, none⟩), .slice pv v.length cv] [ao bf 90 [.int .i64 h.w, .int .i64 h.h, .int .i64 h.dep, .int .i64 h.ax, .bool h.cm, .slice pp pl.length cp, .slice pt tr.length ct, .slice pd nd cd, .slice pk (aa.bA h tr).length ck], Rk, Rv, R] (aO fun e G => e = .tuple #[.agg #[.int .u16 0, .int .u16 0, .int .u16 0, .int .u16 0], .bool false] ∧ G = [ao bf 90 [.int .i64 h.w, .int .i64 h.h, .int .i64 h.dep, .int .i64 h.ax, .bool h.cm, .slice pp pl.length cp, .slice pt tr.length ct, .slice pd nd cd, .slice pk (aa.bA h tr).length ck], Rk, Rv, R]) := by
  by_cases h3 : h.ax = 3
  · have hx := hvx (v.getD 0 0) (aa.ja (by have := aa.ie (c := h.ax) (d := h.dep) (by unfold aa.gq at hf; exact hf.1); omega))
    obtain ⟨k, hk⟩ : ∃ k : Nat, v.getD 0 0 = (k : Int) := ⟨(v.getD 0 0).toNat, by omega⟩
    rw [aa.xg h3, hk] at hpx
    refine A9 h bf pp pl cp pt tr ct pd nd cd pk ck R hP hT hcp hB hBt hpl htl pv cv v Rk Rv hRk hRv hf hvl hvx h3 k hk (by omega) ?_
    refine Classical.not_not.1 fun q => ?_
    rw [show ((k : Int)).toNat = k from rfl, aa.BK q] at hpx
    cases hpx
  · rw [aa.sI h3] at hpx; cases hpx
theorem EH (h : aa.Hd) (bf : Nat) (pp : Option Addr) (pl : List Int) (cp : Nat) (pt : Option Addr) (tr : List Int) (ct : Nat) (pd : Option Addr) (nd cd : Nat) (pk : Option Addr) (ck : Nat) (R : ab) (hP : ∀ w0 h, R w0 h → aR U5 pp pl.length pl w0 h) (hT : ∀ w0 h, R w0 h → aR U5 pt tr.length tr w0 h) (hcp : pl.length ≤ cp) (hB : aj.av pl) (hBt : aj.av tr) (hpl : pl.length < 500000000) (htl : tr.length < 500000000) (pv : Option Addr) (cv : Nat) (v : List Int) (Rk Rv : ab) (hRk : ∀ w0 h_, Rk w0 h_ → aR (aP 3 .i64) pk (aa.bA h tr).length (aa.bA h tr) w0 h_) (hRv : ∀ w0 h_, Rv w0 h_ → aR (aP 3 .i64) pv v.length v w0 h_) (hf : aa.gq ⟨h, pl, tr⟩) (hvl : v.length = (aa.parts h.ax).toNat) (hvx : ∀ x ∈ v, 0 ≤ x ∧ x < 2 ^ h.dep.toNat) (hk2 : v.getD 0 0 < 100000000) (c0 c1 c2 c3 : Int) (hpx : aa.iX ⟨h, pl, tr⟩ v = some [c0, c1, c2, c3]) : aE Tryz.prog 151 [.pointer (some ⟨bf, 0, none⟩), .slice pv v.length cv] [ao bf 90 [.int .i64 h.w, .int .i64 h.h, .int .i64 h.dep, .int .i64 h.ax, .bool h.cm, .slice pp pl.length cp, .slice pt tr.length ct, .slice pd nd cd, .slice pk (aa.bA h tr).length ck], Rk, Rv, R] (aO fun e G => e = .tuple #[.agg #[.int .u16 c0, .int .u16 c1, .int .u16 c2, .int .u16 c3], .bool true] ∧ G = [ao bf 90 [.int .i64 h.w, .int .i64 h.h, .int .i64 h.dep, .int .i64 h.ax, .bool h.cm, .slice pp pl.length cp, .slice pt tr.length ct, .slice pd nd cd, .slice pk (aa.bA h tr).length ck], Rk, Rv, R]) := by
  by_cases h3 : h.ax = 3
  · have hx := hvx (v.getD 0 0) (aa.ja (by have := aa.ie (c := h.ax) (d := h.dep) (by unfold aa.gq at hf; exact hf.1); omega))
    obtain ⟨k, hk⟩ : ∃ k : Nat, v.getD 0 0 = (k : Int) := ⟨(v.getD 0 0).toNat, by omega⟩
    rw [aa.xg h3, hk, show ((k : Int)).toNat = k from rfl] at hpx
    have q : ¬ pl.length / 3 ≤ k := fun q => by rw [aa.I6 q] at hpx; cases hpx
    rw [aa.BK q] at hpx
    obtain ⟨rfl, rfl, rfl, rfl⟩ := aa.u9 hpx
    exact CB h bf pp pl cp pt tr ct pd nd cd pk ck R hP hT hcp hB hBt hpl htl pv cv v Rk Rv hRk hRv hf hvl hvx h3 k hk (by omega) q
  · exact As h bf pp pl cp pt tr ct pd nd cd pk ck R hP hT hcp hB hBt hpl htl pv cv v Rk Rv hRk hRv hf hvl hvx h3 c0 c1 c2 c3 hpx
end Go.Proofs.YtmaiakpjgomnpaaGreat
namespace Go.Proofs.YtmaiakpjgomnpaaGreat
open Go.Sl 
theorem aZ : dR Tryz.prog ⟨[22], []⟩ = true := by kernel_rfl
attribute [local irreducible] aj.av aa.off aa.rn aa.pe aa.gz aa.jq aa.kl aa.gl aa.jD aa.OC aa.rh
set_option maxHeartbeats 1000000 in
theorem fM (a : Int) (ha : -255 ≤ a ∧ a ≤ 510) (y : Int) (hy : 0 ≤ y ∧ y < 256) : aE Tryz.prog 163 [.int .i64 a, .int .i64 y] [] (aO fun v G => v = .int .i64 (aa.off a y) ∧ G = []) := by
 refine au [(0, _), (1, _)] Tryz.func163 rfl Tryz.ntmps163 rfl rfl ?_
 intro w0 F
 refine Aw aZ 13 rfl (by omega) ?_
 refine oV (cH (v := .int .i64 (aa.off a y)) (zO rfl rfl) (congrArg (Value.int .i64) (aa.JL a y))) ?_
 refine rO aZ 4 rfl ?_
 exact ak (aB rfl) ⟨rfl, rfl⟩ (sub .nil aw)
set_option maxHeartbeats 1000000 in
theorem G3 (x : Int) (hx : 0 ≤ x ∧ x < 256) (y : Int) (hy : 0 ≤ y ∧ y < 256) (z : Int) (hz : 0 ≤ z ∧ z < 256) : aE Tryz.prog 165 [.int .u8 x, .int .u8 y, .int .u8 z] [] (aO fun v G => v = .int .u8 (aa.rn x y z) ∧ G = []) := by
 refine au [(0, _), (1, _), (2, _)] Tryz.func165 rfl Tryz.ntmps165 rfl rfl ?_
 intro w0 F
 refine rT aZ 8 rfl ?_
 refine oV (bC V.u5 Tryz.underlying3 rfl wI) ?_
 refine oV (aJ rfl) ?_
 refine oV (bC V.u5 Tryz.underlying3 rfl wI) ?_
 refine oV (aJ rfl) ?_
 refine oV (bC V.u5 Tryz.underlying3 rfl wI) ?_
 refine rO aZ 5 rfl ?_
 rcases (aa.PL x y z) with ⟨q1, q2, hs⟩ | ⟨q1, q2, q3, hs⟩ | ⟨q1, q2, q3, hs⟩ | ⟨q1, q3, hs⟩ | ⟨q1, q3, hs⟩
 ·refine fL aZ 16 rfl (by omega) ?_
  refine ai (fM (x + y - z) (by omega) x hx) V.gY  rfl .nil rfl ?_
  rintro _ _ ⟨rfl, rfl⟩
  refine rO aZ 2 rfl ?_
  refine ai (fM (x + y - z) (by omega) y hy) V.gY  rfl .nil rfl ?_
  rintro _ _ ⟨rfl, rfl⟩
  refine oV (aY (eH rfl rfl) q1) ?_
  refine rO aZ 3 rfl ?_
  refine ag rfl ?_
  refine ai (fM (x + y - z) (by omega) x hx) V.gY  rfl .nil rfl ?_
  rintro _ _ ⟨rfl, rfl⟩
  refine rO aZ 2 rfl ?_
  refine ag rfl ?_
  refine ai (fM (x + y - z) (by omega) z hz) V.gY  rfl .nil rfl ?_
  rintro _ _ ⟨rfl, rfl⟩
  refine ag rfl ?_
  refine oV (aY (eH rfl rfl) q2) ?_
  refine rO aZ 14 rfl ?_
  exact ak (aB rfl) ⟨congrArg (Value.int .u8) hs.symm, rfl⟩ (sub .nil aw)
 ·refine fL aZ 16 rfl (by omega) ?_
  refine ai (fM (x + y - z) (by omega) x hx) V.gY  rfl .nil rfl ?_
  rintro _ _ ⟨rfl, rfl⟩
  refine rO aZ 2 rfl ?_
  refine ai (fM (x + y - z) (by omega) y hy) V.gY  rfl .nil rfl ?_
  rintro _ _ ⟨rfl, rfl⟩
  refine oV (aY (eH rfl rfl) q1) ?_
  refine rO aZ 3 rfl ?_
  refine ag rfl ?_
  refine ai (fM (x + y - z) (by omega) x hx) V.gY  rfl .nil rfl ?_
  rintro _ _ ⟨rfl, rfl⟩
  refine rO aZ 2 rfl ?_
  refine ag rfl ?_
  refine ai (fM (x + y - z) (by omega) z hz) V.gY  rfl .nil rfl ?_
  rintro _ _ ⟨rfl, rfl⟩
  refine ag rfl ?_
  refine oV (aA (eH rfl rfl) q2) ?_
  refine rO aZ 9 rfl ?_
  refine ai (fM (x + y - z) (by omega) y hy) V.gY  rfl .nil rfl ?_
  rintro _ _ ⟨rfl, rfl⟩
  refine rO aZ 2 rfl ?_
  refine ai (fM (x + y - z) (by omega) z hz) V.gY  rfl .nil rfl ?_
  rintro _ _ ⟨rfl, rfl⟩
  refine oV (aY (eH rfl rfl) q3) ?_
  refine rO aZ 13 rfl ?_
  exact ak (aB rfl) ⟨congrArg (Value.int .u8) hs.symm, rfl⟩ (sub .nil aw)
 ·refine fL aZ 16 rfl (by omega) ?_
  refine ai (fM (x + y - z) (by omega) x hx) V.gY  rfl .nil rfl ?_
  rintro _ _ ⟨rfl, rfl⟩
  refine rO aZ 2 rfl ?_
  refine ai (fM (x + y - z) (by omega) y hy) V.gY  rfl .nil rfl ?_
  rintro _ _ ⟨rfl, rfl⟩
  refine oV (aY (eH rfl rfl) q1) ?_
  refine rO aZ 3 rfl ?_
  refine ag rfl ?_
  refine ai (fM (x + y - z) (by omega) x hx) V.gY  rfl .nil rfl ?_
  rintro _ _ ⟨rfl, rfl⟩
  refine rO aZ 2 rfl ?_
  refine ag rfl ?_
  refine ai (fM (x + y - z) (by omega) z hz) V.gY  rfl .nil rfl ?_
  rintro _ _ ⟨rfl, rfl⟩
  refine ag rfl ?_
  refine oV (aA (eH rfl rfl) q2) ?_
  refine rO aZ 9 rfl ?_
  refine ai (fM (x + y - z) (by omega) y hy) V.gY  rfl .nil rfl ?_
  rintro _ _ ⟨rfl, rfl⟩
  refine rO aZ 2 rfl ?_
  refine ai (fM (x + y - z) (by omega) z hz) V.gY  rfl .nil rfl ?_
  rintro _ _ ⟨rfl, rfl⟩
  refine oV (aA (eH rfl rfl) q3) ?_
  refine rO aZ 14 rfl ?_
  exact ak (aB rfl) ⟨congrArg (Value.int .u8) hs.symm, rfl⟩ (sub .nil aw)
 ·refine fL aZ 16 rfl (by omega) ?_
  refine ai (fM (x + y - z) (by omega) x hx) V.gY  rfl .nil rfl ?_
  rintro _ _ ⟨rfl, rfl⟩
  refine rO aZ 2 rfl ?_
  refine ai (fM (x + y - z) (by omega) y hy) V.gY  rfl .nil rfl ?_
  rintro _ _ ⟨rfl, rfl⟩
  refine oV (aA (eH rfl rfl) q1) ?_
  refine rO aZ 17 rfl ?_
  refine ai (fM (x + y - z) (by omega) y hy) V.gY  rfl .nil rfl ?_
  rintro _ _ ⟨rfl, rfl⟩
  refine rO aZ 2 rfl ?_
  refine ai (fM (x + y - z) (by omega) z hz) V.gY  rfl .nil rfl ?_
  rintro _ _ ⟨rfl, rfl⟩
  refine oV (aY (eH rfl rfl) q3) ?_
  refine rO aZ 13 rfl ?_
  exact ak (aB rfl) ⟨congrArg (Value.int .u8) hs.symm, rfl⟩ (sub .nil aw)
 ·refine fL aZ 16 rfl (by omega) ?_
  refine ai (fM (x + y - z) (by omega) x hx) V.gY  rfl .nil rfl ?_
  rintro _ _ ⟨rfl, rfl⟩
  refine rO aZ 2 rfl ?_
  refine ai (fM (x + y - z) (by omega) y hy) V.gY  rfl .nil rfl ?_
  rintro _ _ ⟨rfl, rfl⟩
  refine oV (aA (eH rfl rfl) q1) ?_
  refine rO aZ 17 rfl ?_
  refine ai (fM (x + y - z) (by omega) y hy) V.gY  rfl .nil rfl ?_
  rintro _ _ ⟨rfl, rfl⟩
  refine rO aZ 2 rfl ?_
  refine ai (fM (x + y - z) (by omega) z hz) V.gY  rfl .nil rfl ?_
  rintro _ _ ⟨rfl, rfl⟩
  refine oV (aA (eH rfl rfl) q3) ?_
  refine rO aZ 14 rfl ?_
  exact ak (aB rfl) ⟨congrArg (Value.int .u8) hs.symm, rfl⟩ (sub .nil aw)
set_option maxHeartbeats 1000000 in
theorem DC (p : Option Addr) (c n : Nat) (L : List Int) (R : ab) (hR : ∀ w0 h, R w0 h → aR U5 p n L w0 h) (hn : L.length = n) (hB : aj.av L) (j : Int) : aE Tryz.prog 164 [.slice p n c, .int .i64 j] [R] (aO fun v G => v = .int .u8 (aa.rh L j) ∧ G = [R]) := by
 refine au [(0, _), (1, _)] Tryz.func164 rfl Tryz.ntmps164 rfl rfl ?_
 intro w0 F
 refine rT aZ 5 rfl ?_
 rcases (aa.Ox L j) with ⟨q1, hs⟩ | ⟨q1, q2, hs⟩ | ⟨q1, q2, hs⟩
 ·refine rC aZ 4 rfl ?_
  refine oV (aY (bo rfl rfl) (by omega)) ?_
  refine rO aZ 16 rfl ?_
  exact ak (aB rfl) ⟨congrArg (Value.int .u8) hs.symm, rfl⟩ (sub (ar .nil) aw)
 ·refine rC aZ 4 rfl ?_
  refine oV (aA (bo rfl rfl) (by omega)) ?_
  refine rO aZ 4 rfl ?_
  refine ag rfl ?_
  refine oV (aY (fh rfl rfl) (by omega)) ?_
  refine rO aZ 11 rfl ?_
  exact ak (aB rfl) ⟨congrArg (Value.int .u8) hs.symm, rfl⟩ (sub (ar .nil) aw)
 ·refine rC aZ 4 rfl ?_
  refine oV (aA (bo rfl rfl) (by omega)) ?_
  refine rO aZ 4 rfl ?_
  refine ag rfl ?_
  refine oV (aA (fh rfl rfl) (by omega)) ?_
  refine rO aZ 10 rfl ?_
  refine oV (xI V.cy (by exact bE hR an)) ?_
  refine oV (xL V.s5 (by exact bE hR an)) ?_
  refine rO aZ 4 rfl ?_
  exact ak (aB rfl) ⟨congrArg (Value.int .u8) hs.symm, rfl⟩ (sub (ar .nil) aw)
set_option maxHeartbeats 1000000 in
theorem Lg (kind : Int) (p1 : Option Addr) (c1 n1 : Nat) (L1 : List Int) (R1 : ab) (hR1 : ∀ w0 h, R1 w0 h → aR U5 p1 n1 L1 w0 h) (hn1 : L1.length = n1) (hB1 : aj.av L1) (p2 : Option Addr) (c2 n2 : Nat) (L2 : List Int) (R2 : ab) (hR2 : ∀ w0 h, R2 w0 h → aR U5 p2 n2 L2 w0 h) (hn2 : L2.length = n2) (hB2 : aj.av L2) (i back : Nat) (hi : i < 500000000) (hbk : back ≤ 8) : aE Tryz.prog 141 [.int .i64 kind, .slice p1 n1 c1, .slice p2 n2 c2, .int .i64 (back : Int), .int .i64 (i : Int)] [R1, R2] (aO fun v G => v = .int .u8 (aa.pe kind (aa.gz L1 i back) (L2.getD i 0) (aa.gz L2 i back)) ∧ G = [R1, R2]) := by
 refine au [(0, _), (1, _), (2, _), (3, _), (4, _)] Tryz.func141 rfl Tryz.ntmps141 rfl rfl ?_
 intro w0 F
 have ha := aa.Ft hB1 i back
 have hb : 0 ≤ (L2.getD i 0) ∧ (L2.getD i 0) < 256 := hB2.get i
 have hd := aa.Ft hB2 i back
 refine Aw aZ 11 rfl (by omega) ?_
 refine ai (DC p1 c1 n1 L1 R1 hR1 hn1 hB1 ((i : Int) - (back : Int))) V.Dj  rfl (ar .nil) rfl ?_
 rintro _ _ ⟨rfl, rfl⟩
 rw [aa.Bo]
 refine rO aZ 2 rfl ?_
 refine ai (DC p2 c2 n2 L2 R2 hR2 hn2 hB2 (i : Int)) V.Dj  rfl (.cons az .nil) rfl ?_
 rintro _ _ ⟨rfl, rfl⟩
 rw [aa.Gv]
 refine cS aZ 4 rfl (by omega) ?_
 refine ai (DC p2 c2 n2 L2 R2 hR2 hn2 hB2 ((i : Int) - (back : Int))) V.Dj  rfl (ar .nil) rfl ?_
 rintro _ _ ⟨rfl, rfl⟩
 rw [aa.Bo]
 refine rO aZ 5 rfl ?_
 rcases (aa.OZ kind (aa.gz L1 i back) (L2.getD i 0) (aa.gz L2 i back)) with ⟨q1, hs⟩ | ⟨q1, q2, hs⟩ | ⟨q1, q2, q3, hs⟩ | ⟨q1, q2, q3, q4, hs⟩ | ⟨q1, q2, q3, q4, hs⟩
 ·refine rC aZ 9 rfl ?_
  refine oV (aY (aD rfl rfl) (by omega)) ?_
  refine rO aZ 13 rfl ?_
  exact ak (aB rfl) ⟨congrArg (Value.int .u8) hs.symm, rfl⟩ (sub (.cons az (ar .nil)) aw)
 ·refine rC aZ 9 rfl ?_
  refine oV (aA (aD rfl rfl) (by omega)) ?_
  refine rO aZ 6 rfl ?_
  refine oV (aY (aD rfl rfl) (by omega)) ?_
  refine rO aZ 13 rfl ?_
  exact ak (aB rfl) ⟨congrArg (Value.int .u8) hs.symm, rfl⟩ (sub (.cons az (ar .nil)) aw)
 ·refine rC aZ 9 rfl ?_
  refine oV (aA (aD rfl rfl) (by omega)) ?_
  refine rO aZ 6 rfl ?_
  refine oV (aA (aD rfl rfl) (by omega)) ?_
  refine rO aZ 6 rfl ?_
  refine oV (aY (aD rfl rfl) (by omega)) ?_
  refine rO aZ 7 rfl ?_
  refine oV (bC V.u5 Tryz.underlying3 rfl wI) ?_
  refine oV (aJ rfl) ?_
  refine oV (bC V.u5 Tryz.underlying3 rfl wI) ?_
  refine cS aZ 1 rfl (by omega) ?_
  refine oV (fR (r := ((aa.gz L1 i back) + (L2.getD i 0)) / 2) rfl rfl (by omega) (jH (by omega) (by omega) (by omega))) ?_
  refine oV (bC V.u3 Tryz.underlying5 rfl (lj (by omega) (by omega))) ?_
  refine rO aZ 6 rfl ?_
  exact ak (aB rfl) ⟨congrArg (Value.int .u8) hs.symm, rfl⟩ (sub (.cons az (ar .nil)) aw)
 ·refine rC aZ 9 rfl ?_
  refine oV (aA (aD rfl rfl) (by omega)) ?_
  refine rO aZ 6 rfl ?_
  refine oV (aA (aD rfl rfl) (by omega)) ?_
  refine rO aZ 6 rfl ?_
  refine oV (aA (aD rfl rfl) (by omega)) ?_
  refine rO aZ 6 rfl ?_
  refine oV (aY (aD rfl rfl) (by omega)) ?_
  refine rO aZ 9 rfl ?_
  refine ai (G3 (aa.gz L1 i back) ha (L2.getD i 0) hb (aa.gz L2 i back) hd) V.PQ  rfl .nil rfl ?_
  rintro _ _ ⟨rfl, rfl⟩
  refine rO aZ 6 rfl ?_
  exact ak (aB rfl) ⟨congrArg (Value.int .u8) hs.symm, rfl⟩ (sub (.cons az (ar .nil)) aw)
 ·refine rC aZ 9 rfl ?_
  refine oV (aA (aD rfl rfl) (by omega)) ?_
  refine rO aZ 6 rfl ?_
  refine oV (aA (aD rfl rfl) (by omega)) ?_
  refine rO aZ 6 rfl ?_
  refine oV (aA (aD rfl rfl) (by omega)) ?_
  refine rO aZ 6 rfl ?_
  refine oV (aA (aD rfl rfl) (by omega)) ?_
  refine rO aZ 13 rfl ?_
  exact ak (aB rfl) ⟨congrArg (Value.int .u8) hs.symm, rfl⟩ (sub (.cons az (ar .nil)) aw)
set_option maxHeartbeats 1000000 in
theorem FZ (kind : Int) (p1 : Option Addr) (c1 n1 : Nat) (L1 : List Int) (R1 : ab) (hR1 : ∀ w0 h, R1 w0 h → aR U5 p1 n1 L1 w0 h) (hn1 : L1.length = n1) (hB1 : aj.av L1) (p2 : Option Addr) (c2 n2 : Nat) (L2 : List Int) (R2 : ab) (hR2 : ∀ w0 h, R2 w0 h → aR U5 p2 n2 L2 w0 h) (hn2 : L2.length = n2) (hB2 : aj.av L2) (back : Nat) (hbk : 1 ≤ back ∧ back ≤ 8) (h2 : n2 = 0 ∨ n2 = n1) (hk : 0 ≤ kind) (hn1s : n1 < 500000000) (t : Bool) (ht : t = decide (kind < 5)) : aE Tryz.prog 140 [.int .i64 kind, .slice p1 n1 c1, .slice p2 n2 c2, .int .i64 (back : Int)] [R1, R2] (aO fun v G => v = .bool t ∧ G = [R1, R2]) := by
 refine au [(0, _), (1, _), (2, _), (3, _)] Tryz.func140 rfl Tryz.ntmps140 rfl rfl ?_
 intro w0 F
 refine rT aZ 5 rfl ?_
 rcases ((by by_cases h : kind < 5; exact (Nat.eq_zero_or_pos n2).elim (fun q => .inr (.inl ⟨h, q⟩)) (fun q => .inr (.inr ⟨h, q⟩)); exact .inl h : ¬ kind < 5 ∨ (kind < 5 ∧ n2 = 0) ∨ (kind < 5 ∧ 0 < n2))) with hq | ⟨hq, hz⟩ | ⟨hq, hz⟩
 ·refine rC aZ 3 rfl ?_
  refine oV (aY (fh rfl rfl) (by omega)) ?_
  refine rO aZ 2 rfl ?_
  refine ag rfl ?_
  refine oV (aA (bo rfl rfl) hq) ?_
  refine rO aZ 25 rfl ?_
  (obtain rfl : t = false := ht.trans (decide_eq_false hq); exact ak (G := [R1, R2]) (aB rfl) ⟨rfl, rfl⟩ (sub (bD .nil) aw))
 ·refine rC aZ 3 rfl ?_
  refine oV (aY (fh rfl rfl) (by omega)) ?_
  refine rO aZ 2 rfl ?_
  refine ag rfl ?_
  refine oV (aY (bo rfl rfl) hq) ?_
  refine rO aZ 3 rfl ?_
  refine ag rfl ?_
  refine oV (aY (fh rfl rfl) (by omega)) ?_
  refine rO aZ 3 rfl ?_
  refine ag rfl ?_
  refine oV (aY (eH rfl rfl) (by omega)) ?_
  refine rO aZ 4 rfl ?_
  refine ag rfl ?_
  refine oV (aY (aD rfl rfl) (by omega)) ?_
  refine rO aZ 12 rfl ?_
  (obtain rfl : t = true := ht.trans (decide_eq_true hq); exact ak (G := [R1, R2]) (aB rfl) ⟨rfl, rfl⟩ (sub (bD .nil) aw))
 ·refine rC aZ 3 rfl ?_
  refine oV (aY (fh rfl rfl) (by omega)) ?_
  refine rO aZ 2 rfl ?_
  refine ag rfl ?_
  refine oV (aY (bo rfl rfl) hq) ?_
  refine rO aZ 3 rfl ?_
  refine ag rfl ?_
  refine oV (aY (fh rfl rfl) (by omega)) ?_
  refine rO aZ 3 rfl ?_
  refine ag rfl ?_
  refine oV (aY (eH rfl rfl) (by omega)) ?_
  refine rO aZ 4 rfl ?_
  refine ag rfl ?_
  refine oV (aA (aD rfl rfl) (by omega)) ?_
  refine rO aZ 5 rfl ?_
  refine ag rfl ?_
  refine oV (aY (aD rfl rfl) (by omega)) ?_
  refine rO aZ 6 rfl ?_
  (obtain rfl : t = true := ht.trans (decide_eq_true hq); exact ak (G := [R1, R2]) (aB rfl) ⟨rfl, rfl⟩ (sub (bD .nil) aw))
set_option maxHeartbeats 2000000 in
theorem BJ (kind : Int) (p1 : Option Addr) (c1 n1 : Nat) (L1 : List Int) (R1 : ab) (hR1 : ∀ w0 h, R1 w0 h → aR U5 p1 n1 L1 w0 h) (hn1 : L1.length = n1) (hB1 : aj.av L1) (p2 : Option Addr) (c2 n2 : Nat) (L2 : List Int) (R2 : ab) (hR2 : ∀ w0 h, R2 w0 h → aR U5 p2 n2 L2 w0 h) (hn2 : L2.length = n2) (hB2 : aj.av L2) (back : Nat) (hbk : 1 ≤ back ∧ back ≤ 8) (h2 : n2 = 0 ∨ n2 = n1) (hk : 0 ≤ kind) (hn1s : n1 < 500000000) : aE Tryz.prog 120 [.int .i64 kind, .slice p1 n1 c1, .slice p2 n2 c2, .int .i64 (back : Int)] [R1, R2] (aO fun v G => (4 < kind ∧ v = .tuple #[.slice none 0 0, .bool false] ∧ G = [R1, R2]) ∨ (¬ 4 < kind ∧ ∃ q cq, v = .tuple #[.slice q n1 cq, .bool true] ∧ G = [Row U5 q n1 cq (aa.gl kind L1 L2 back), R1, R2])) := by
 refine au [(0, _), (1, _), (2, _), (3, _)] Tryz.func120 rfl Tryz.ntmps120 rfl rfl ?_
 intro w0 F
 refine rT aZ 6 rfl ?_
 rcases (Int.lt_or_le 4 kind) with hq | hq
 ·refine rC aZ 7 rfl ?_
  refine ai (FZ kind p1 c1 n1 L1 R1 hR1 hn1 hB1 p2 c2 n2 L2 R2 hR2 hn2 hB2 back hbk h2 hk hn1s false (decide_eq_false (by omega)).symm) V.Kv  rfl (bD .nil) rfl ?_
  rintro _ _ ⟨rfl, rfl⟩
  refine rO aZ 12 rfl ?_
  exact ak (fy rfl rfl) (.inl ⟨hq, rfl, rfl⟩) (sub (bD .nil) aw)
 ·refine rC aZ 7 rfl ?_
  refine ai (FZ kind p1 c1 n1 L1 R1 hR1 hn1 hB1 p2 c2 n2 L2 R2 hR2 hn2 hB2 back hbk h2 hk hn1s true (decide_eq_true (by omega)).symm) V.Kv  rfl (bD .nil) rfl ?_
  rintro _ _ ⟨rfl, rfl⟩
  refine rO aZ 10 rfl ?_
  refine n6 n1 n1 (U5) rfl rfl V.cy V.z5 rfl rfl rfl rfl (by omega) (by omega) rfl rfl ?_
  intro l6
  refine rO aZ 12 rfl ?_
  rw [show List.replicate n1 U5.d = aa.jD kind L1 L2 back 0 from by rw [aa.IP, hn1]]
  refine dX (fun (i : Nat) => [(0, .int .i64 kind), (2, .slice p2 n2 c2), (3, .int .i64 (back : Int)), (10, .slice (some ⟨l6, 0, none⟩) n1 n1), (22, .slice p1 n1 c1), (23, .int .i64 (n1 : Int)), (24, .int .i64 (i : Int))]) (fun (i : Nat) => Row U5 (some ⟨l6, 0, none⟩) n1 n1 (aa.jD kind L1 L2 back i) :: R1 :: R2 :: F) (fun (i : Nat) => i ≤ n1) (fun (i : Nat) => n1 - i) (i1 (0) ?_ (ku (dp ln)) (sub (ic .nil) aw)) ?_
  ·exact Nat.zero_le _
  intro i
  rintro hi
  refine rL aZ 6 rfl ?_
  refine aN rfl (fun h25 => ?_) (fun h25 => ?_)
  ·refine rC aZ 7 rfl ?_
   refine oV (xI V.cy (by exact bE hR1 bW)) ?_
   refine oV (xL V.s5 (by exact bE hR1 bW)) ?_
   refine rO aZ 13 rfl ?_
   refine ai (Lg kind (some ⟨l6, 0, none⟩) n1 n1 (aa.jD kind L1 L2 back i) (Row U5 (some ⟨l6, 0, none⟩) n1 n1 (aa.jD kind L1 L2 back i)) (fun _ _ hh => hh.rd) (by rw [aa.EV (by omega)]; exact hn1) aa.Ea p2 c2 n2 L2 R2 hR2 hn2 hB2 i back (by omega) hbk.2) V.OB  rfl (ar (.cons az .nil)) rfl ?_
   rintro _ _ ⟨rfl, rfl⟩
   rw [aa.Hn (by omega)]
   refine oV (dj (r := (aa.kl kind L1 L2 back (aa.jq kind L1 L2 back i) i)) rfl rfl ((aa.ew _).trans (aa.Hi rfl rfl))) ?_
   refine oV (xI V.cy (own an)) ?_
   refine aT (ij (c := (U5)) (_) V.s5 rfl rfl rfl (by exact cZ) (by omega) (by omega) rfl rfl) ?_
   refine cS aZ 7 rfl (by omega) ?_
   rw [show List.set (aa.jD kind L1 L2 back i) ((i : Int)).toNat (aa.kl kind L1 L2 back (aa.jq kind L1 L2 back i) i) = aa.jD kind L1 L2 back (i + 1) from aa.D8 (by omega)]
   exact j1 (i + 1) ⟨by omega, by omega⟩ (ku (dp ln)) (sub (ar (.cons az (.cons dS .nil))) aw)
  ·refine rC aZ 6 rfl ?_
   obtain rfl : i = n1 := by omega
   rw [show aa.jD kind L1 L2 back i = aa.gl kind L1 L2 back from hn1 ▸ aa.DW kind L1 L2 back]
   refine rC aZ 7 rfl ?_
   exact ak (fy rfl rfl) (.inr ⟨by omega, _, _, rfl, rfl⟩) (sub (ic .nil) aw)
end Go.Proofs.YtmaiakpjgomnpaaGreat
namespace Go.Proofs.YtmaiakpjgomnpaaGreat
open Go.Sl
theorem V.DG : aF Tryz.prog 120 = true := by kernel_rfl
theorem V.IA : aF Tryz.prog 121 = true := by kernel_rfl
theorem V.LI : aF Tryz.prog 151 = true := by kernel_rfl
theorem V.OI : aF Tryz.prog 152 = true := by kernel_rfl
theorem V.Lq : cg Tryz.prog 145 0 = some 0 := by kernel_rfl
theorem V.QK : cg Tryz.prog 145 1 = some 1 := by kernel_rfl
theorem V.P4 : cg Tryz.prog 145 2 = some 2 := by kernel_rfl
theorem V.Qk : cg Tryz.prog 145 3 = some 3 := by kernel_rfl
end Go.Proofs.YtmaiakpjgomnpaaGreat
namespace Go.Proofs.YtmaiakpjgomnpaaGreat
open Go.Sl 
theorem da : dR Tryz.prog ⟨[47], [(35, 2, 2), (35, 3, 3), (90, 0, 0), (145, 0, 0), (145, 1, 1), (145, 2, 2), (145, 3, 3), (145, 4, 4), (145, 5, 5)]⟩ = true := by kernel_rfl
attribute [local irreducible] aj.av aa.bN aa.up aa.cU aa.gX aa.Bh aa.deep aa.parts HW aa.bA aa.iX aa.fC aa.pM aa.ky aa.gq aa.gK aa.ft aa.lE aa.kS aa.gl aa.ff
theorem Ky (h : aa.Hd) (bf : Nat) (pp : Option Addr) (pl : List Int) (cp : Nat) (pt : Option Addr) (tr : List Int) (ct : Nat) (pd : Option Addr) (nd cd : Nat) (pk : Option Addr) (ck : Nat) (R : ab) (hP : ∀ w0 h, R w0 h → aR U5 pp pl.length pl w0 h) (hT : ∀ w0 h, R w0 h → aR U5 pt tr.length tr w0 h) (hcp : pl.length ≤ cp) (hB : aj.av pl) (hBt : aj.av tr) (hpl : pl.length < 500000000) (htl : tr.length < 500000000) (pv : Option Addr) (cv : Nat) (v : List Int) (Rk Rv : ab) (hRk : ∀ w0 h_, Rk w0 h_ → aR (aP 3 .i64) pk (aa.bA h tr).length (aa.bA h tr) w0 h_) (hRv : ∀ w0 h_, Rv w0 h_ → aR (aP 3 .i64) pv v.length v w0 h_) (hf : aa.gq ⟨h, pl, tr⟩) (hvl : v.length = (aa.parts h.ax).toNat) (hvx : ∀ x ∈ v, 0 ≤ x ∧ x < 2 ^ h.dep.toNat) (nv : Nat) (hnv : v.length = nv) (hk2 : v.getD 0 0 < 100000000) (hpx : aa.iX ⟨h, pl, tr⟩ v = none) : aE Tryz.prog 151 [.pointer (some ⟨bf, 0, none⟩), .slice pv nv cv] [ao bf 90 [.int .i64 h.w, .int .i64 h.h, .int .i64 h.dep, .int .i64 h.ax, .bool h.cm, .slice pp pl.length cp, .slice pt tr.length ct, .slice pd nd cd, .slice pk (aa.bA h tr).length ck], Rk, Rv, R] (aO fun e G => e = .tuple #[.agg #[.int .u16 0, .int .u16 0, .int .u16 0, .int .u16 0], .bool false] ∧ G = [ao bf 90 [.int .i64 h.w, .int .i64 h.h, .int .i64 h.dep, .int .i64 h.ax, .bool h.cm, .slice pp pl.length cp, .slice pt tr.length ct, .slice pd nd cd, .slice pk (aa.bA h tr).length ck], Rk, Rv, R]) := by
 subst hnv
 exact Da h bf pp pl cp pt tr ct pd nd cd pk ck R hP hT hcp hB hBt hpl htl pv cv v Rk Rv hRk hRv hf hvl hvx hk2 hpx
theorem LY (h : aa.Hd) (bf : Nat) (pp : Option Addr) (pl : List Int) (cp : Nat) (pt : Option Addr) (tr : List Int) (ct : Nat) (pd : Option Addr) (nd cd : Nat) (pk : Option Addr) (ck : Nat) (R : ab) (hP : ∀ w0 h, R w0 h → aR U5 pp pl.length pl w0 h) (hT : ∀ w0 h, R w0 h → aR U5 pt tr.length tr w0 h) (hcp : pl.length ≤ cp) (hB : aj.av pl) (hBt : aj.av tr) (hpl : pl.length < 500000000) (htl : tr.length < 500000000) (pv : Option Addr) (cv : Nat) (v : List Int) (Rk Rv : ab) (hRk : ∀ w0 h_, Rk w0 h_ → aR (aP 3 .i64) pk (aa.bA h tr).length (aa.bA h tr) w0 h_) (hRv : ∀ w0 h_, Rv w0 h_ → aR (aP 3 .i64) pv v.length v w0 h_) (hf : aa.gq ⟨h, pl, tr⟩) (hvl : v.length = (aa.parts h.ax).toNat) (hvx : ∀ x ∈ v, 0 ≤ x ∧ x < 2 ^ h.dep.toNat) (nv : Nat) (hnv : v.length = nv) (hk2 : v.getD 0 0 < 100000000) (c0 c1 c2 c3 : Int) (hpx : aa.iX ⟨h, pl, tr⟩ v = some [c0, c1, c2, c3]) : aE Tryz.prog 151 [.pointer (some ⟨bf, 0, none⟩), .slice pv nv cv] [ao bf 90 [.int .i64 h.w, .int .i64 h.h, .int .i64 h.dep, .int .i64 h.ax, .bool h.cm, .slice pp pl.length cp, .slice pt tr.length ct, .slice pd nd cd, .slice pk (aa.bA h tr).length ck], Rk, Rv, R] (aO fun e G => e = .tuple #[.agg #[.int .u16 c0, .int .u16 c1, .int .u16 c2, .int .u16 c3], .bool true] ∧ G = [ao bf 90 [.int .i64 h.w, .int .i64 h.h, .int .i64 h.dep, .int .i64 h.ax, .bool h.cm, .slice pp pl.length cp, .slice pt tr.length ct, .slice pd nd cd, .slice pk (aa.bA h tr).length ck], Rk, Rv, R]) := by
 subst hnv
 exact EH h bf pp pl cp pt tr ct pd nd cd pk ck R hP hT hcp hB hBt hpl htl pv cv v Rk Rv hRk hRv hf hvl hvx hk2 c0 c1 c2 c3 hpx
theorem E5 {h : aa.Hd} {row : List Int} {i : Nat} (hd : aa.jv h.dep) (hp : 1 ≤ aa.parts h.ax) : (aa.fC h row i).getD 0 0 < 100000000 := by
 have h1 := aa.ud (h := h) (row := row) (x := i) _ (aa.ja (l := aa.fC h row i) (i := 0) (by rw [aa.lG]; omega))
 have := aa.mF hd
 omega
set_option maxHeartbeats 8000000 in
theorem FI (h : aa.Hd) (bf : Nat) (pp : Option Addr) (pl : List Int) (cp : Nat) (pt : Option Addr) (tr : List Int) (ct : Nat) (pd : Option Addr) (nd cd : Nat) (pk : Option Addr) (ck : Nat) (R : ab) (hP : ∀ w0 h, R w0 h → aR U5 pp pl.length pl w0 h) (hT : ∀ w0 h, R w0 h → aR U5 pt tr.length tr w0 h) (hcp : pl.length ≤ cp) (hB : aj.av pl) (hBt : aj.av tr) (hpl : pl.length < 500000000) (htl : tr.length < 500000000) (Rk : ab) (hRk : ∀ w0 h_, Rk w0 h_ → aR (aP 3 .i64) pk (aa.bA h tr).length (aa.bA h tr) w0 h_) (hf : aa.gq ⟨h, pl, tr⟩) (hs : aa.bN h.w h.h = 0) (q : Option Addr) (n c : Nat) (hn : (n : Int) = 4 * h.w * h.h) (hcap : n ≤ c) (dv : List Int) (hpx0 : dv.length = n) (p : aa.Ps) (hp : aa.kS p h.w h.h) (yy : Nat) (hyy : (yy : Int) < p.h) (pb : Option Addr) (cb : Nat) (row : List Int) (hrl : row.length < 500000000) (hBr : aj.av row) (Rb : ab) (hRb : ∀ w0 h, Rb w0 h → aR U5 pb row.length row w0 h) (hbits : ∀ i : Nat, (i : Int) < p.w → i * (aa.parts h.ax).toNat * h.dep.toNat + (aa.parts h.ax).toNat * h.dep.toNat ≤ 8 * row.length) : aE Tryz.prog 121 [.pointer (some ⟨bf, 0, none⟩), .agg #[.int .i64 h.w, .int .i64 h.h, .slice q n c], .agg #[.int .i64 p.x, .int .i64 p.y, .int .i64 p.dx, .int .i64 p.dy, .int .i64 p.w, .int .i64 p.h], .int .i64 (yy : Int), .slice pb row.length cb] [ao bf 90 [.int .i64 h.w, .int .i64 h.h, .int .i64 h.dep, .int .i64 h.ax, .bool h.cm, .slice pp pl.length cp, .slice pt tr.length ct, .slice pd nd cd, .slice pk (aa.bA h tr).length ck], Row (aP 62 .u16) q n c dv, Rk, Rb, R] (aO fun v G => (aa.gK ⟨h, pl, tr⟩ p (yy : Int) row p.w.toNat 0 dv = none ∧ v = .bool false ∧ ∃ P, P.length = n ∧ G = [ao bf 90 [.int .i64 h.w, .int .i64 h.h, .int .i64 h.dep, .int .i64 h.ax, .bool h.cm, .slice pp pl.length cp, .slice pt tr.length ct, .slice pd nd cd, .slice pk (aa.bA h tr).length ck], Row (aP 62 .u16) q n c P, Rk, Rb, R]) ∨ ∃ P, aa.gK ⟨h, pl, tr⟩ p (yy : Int) row p.w.toNat 0 dv = some P ∧ P.length = n ∧ v = .bool true ∧ G = [ao bf 90 [.int .i64 h.w, .int .i64 h.h, .int .i64 h.dep, .int .i64 h.ax, .bool h.cm, .slice pp pl.length cp, .slice pt tr.length ct, .slice pd nd cd, .slice pk (aa.bA h tr).length ck], Row (aP 62 .u16) q n c P, Rk, Rb, R]) := by
 refine au [(0, _), (1, _), (2, _), (3, _), (4, _)] Tryz.func121 rfl Tryz.ntmps121 rfl rfl ?_
 intro w0 F
 have hde : aa.deep h.ax h.dep := by unfold aa.gq at hf; exact hf.1
 have hpc := aa.ie hde
 have hdi := aa.jM (aa.iA hde)
 obtain ⟨N, hN⟩ : ∃ N, N = (aa.parts h.ax).toNat := ⟨_, rfl⟩
 obtain ⟨D, hD⟩ : ∃ D, D = h.dep.toNat := ⟨_, rfl⟩
 have hN2 : aa.parts h.ax = (N : Int) := by omega
 have hD2 : h.dep = (D : Int) := by omega
 have hpo := hp
 unfold aa.kS aa.jV at hpo
 obtain ⟨⟨hx0, hx1, hy0, hy1, hdx, hdy, hw0, hw1, hh0, hh1⟩, hix, hiy⟩ := hpo
 have hsd := aa.jY hs
 obtain ⟨RES, hRES⟩ : ∃ r, r = aa.gK ⟨h, pl, tr⟩ p (yy : Int) row p.w.toNat 0 dv := ⟨_, rfl⟩
 rw [← hRES]
 refine rT da 2 rfl ?_
 refine eL rfl (cs := [_, _, _]) rfl rfl ?_
 intro b6
 refine eL rfl (cs := [_, _, _, _, _, _]) rfl rfl ?_
 intro b7
 refine rO da 6 rfl ?_
 refine ai (xw pb cb row Rb hRb hrl) V.LH  rfl (.cons j6 .nil) rfl ?_
 rintro _ _ ⟨bx, rfl, rfl⟩
 refine rO da 9 rfl ?_
 refine oV (ae V.s3 rfl jz rfl) ?_
 refine ai (iM h.ax) V.pf  rfl .nil rfl ?_
 rintro _ _ ⟨rfl, rfl⟩
 rw [hN2]
 refine n6 N N (I3) rfl rfl V.cQ V.z3 rfl rfl rfl rfl (by omega) (by omega) rfl rfl ?_
 intro b25
 refine rO da 7 rfl ?_
 refine oV (ae V.s3 rfl eI rfl) ?_
 refine rO da 4 rfl ?_
 rw [show HW bx row 0 [] 0 = HW bx row (0 * N * D) [] 0 from by rw [Nat.zero_mul, Nat.zero_mul]]
 rw [show List.replicate N (aP 3 .i64).d = List.replicate N 0 from rfl]
 refine jS (fun (i : Nat) (Vo : List Int) (P : List Int) => [(0, .pointer (some ⟨bf, 0, none⟩)), (3, .int .i64 (yy : Int)), (6, .pointer (some ⟨b6, 0, none⟩)), (7, .pointer (some ⟨b7, 0, none⟩)), (11, .pointer (some ⟨bx, 0, none⟩)), (12, .slice (some ⟨b25, 0, none⟩) N N), (27, .int .i64 p.w), (28, .int .i64 (i : Int))]) (fun (i : Nat) (Vo : List Int) (P : List Int) => HW bx row (i * N * D) [] 0 :: Row (aP 3 .i64) (some ⟨b25, 0, none⟩) N N Vo :: ao b6 26 [.int .i64 h.w, .int .i64 h.h, .slice q n c] :: ao b7 145 [.int .i64 p.x, .int .i64 p.y, .int .i64 p.dx, .int .i64 p.dy, .int .i64 p.w, .int .i64 p.h] :: ao bf 90 [.int .i64 h.w, .int .i64 h.h, .int .i64 h.dep, .int .i64 h.ax, .bool h.cm, .slice pp pl.length cp, .slice pt tr.length ct, .slice pd nd cd, .slice pk (aa.bA h tr).length ck] :: Row (aP 62 .u16) q n c P :: Rk :: Rb :: R :: F) (fun (i : Nat) (Vo : List Int) (P : List Int) => (i : Int) ≤ p.w ∧ Vo.length = N ∧ P.length = n ∧ aa.gK ⟨h, pl, tr⟩ p (yy : Int) row (p.w.toNat - i) i P = RES) (fun (i : Nat) (Vo : List Int) (P : List Int) => p.w.toNat - i) (i3 (0) (List.replicate N 0) (dv) ?_ (jg (dp ln)) (sub (.cons az (ar (.cons bX (.cons az (.cons az (.cons az (.cons az (.cons dS (.cons dS .nil))))))))) aw)) ?_
 ·exact ⟨by omega, List.length_replicate, hpx0, hRES.symm⟩
 intro i Vo P
 rintro ⟨hi, hVl, hPl, hres⟩
 have hSl : (aa.fC h row i).length = N := by rw [aa.lG, hN]
 refine rL da 6 rfl ?_
 refine aN rfl (fun h29 => ?_) (fun h29 => ?_)
 ·refine rC da 19 rfl ?_
  rw [show HW bx row (i * N * D) [] 0 = HW bx row (i * N * D + 0 * D) [] 0 from by rw [Nat.zero_mul, Nat.add_zero], show Row (aP 3 .i64) (some ⟨b25, 0, none⟩) N N Vo = Row (aP 3 .i64) (some ⟨b25, 0, none⟩) N N (aa.vN (aa.fC h row i) Vo 0) from by rw [aa.PA]]
  refine dX (fun (k : Nat) => [(0, .pointer (some ⟨bf, 0, none⟩)), (3, .int .i64 (yy : Int)), (6, .pointer (some ⟨b6, 0, none⟩)), (7, .pointer (some ⟨b7, 0, none⟩)), (11, .pointer (some ⟨bx, 0, none⟩)), (12, .slice (some ⟨b25, 0, none⟩) N N), (13, .int .i64 (i : Int)), (27, .int .i64 p.w), (28, .int .i64 (i : Int)), (32, .int .i64 (N : Int)), (33, .int .i64 (k : Int))]) (fun (k : Nat) => HW bx row (i * N * D + k * D) [] 0 :: Row (aP 3 .i64) (some ⟨b25, 0, none⟩) N N (aa.vN (aa.fC h row i) Vo k) :: ao b6 26 [.int .i64 h.w, .int .i64 h.h, .slice q n c] :: ao b7 145 [.int .i64 p.x, .int .i64 p.y, .int .i64 p.dx, .int .i64 p.dy, .int .i64 p.w, .int .i64 p.h] :: ao bf 90 [.int .i64 h.w, .int .i64 h.h, .int .i64 h.dep, .int .i64 h.ax, .bool h.cm, .slice pp pl.length cp, .slice pt tr.length ct, .slice pd nd cd, .slice pk (aa.bA h tr).length ck] :: Row (aP 62 .u16) q n c P :: Rk :: Rb :: R :: F) (fun (k : Nat) => k ≤ N) (fun (k : Nat) => N - k) (i1 (0) ?_ (kJ (dp (dp ln))) (sub (ny (pc .nil)) aw)) ?_
  ·exact Nat.zero_le _
  intro k
  rintro hk
  refine rL da 6 rfl ?_
  refine aN rfl (fun h34 => ?_) (fun h34 => ?_)
  ·refine rC da 10 rfl ?_
   have hkD : k * D + D ≤ N * D := by have := Nat.mul_le_mul_right D (show k + 1 ≤ N by omega); rwa [Nat.add_mul, Nat.one_mul] at this
   have hbi : i * N * D + N * D ≤ 8 * row.length := by rw [hN, hD]; exact hbits i (by omega)
   have hvl := aa.KI (S := (aa.fC h row i)) (old := Vo) (k := k) (by omega) (by omega)
   refine rC da 8 rfl ?_
   refine oV (cH (v := .int .i64 (D : Int)) (ae V.s3 rfl jz rfl) (congrArg (Value.int .i64) hD2)) ?_
   refine ai (kn bx row (i * N * D + k * D) [] 0 D hrl hBr (by omega) (by omega)) V.sP  rfl (ar .nil) rfl ?_
   rintro _ _ ⟨rfl, rfl⟩
   refine oV (xI V.cQ (own bW)) ?_
   refine aT (ij (c := (I3)) (_) V.s3 rfl rfl rfl (by exact mi) (by omega) (by omega) rfl rfl) ?_
   refine cS da 7 rfl (by omega) ?_
   rw [aa.Px hN hD hVl (by omega), show i * N * D + k * D + D = i * N * D + (k + 1) * D from by rw [Nat.add_mul, Nat.one_mul, Nat.add_assoc]]
   exact j1 (k + 1) ⟨by omega, by omega⟩ (kJ (dp (dp ln))) (sub (ny (pc .nil)) aw)
  ·refine rC da 5 rfl ?_
   rcases (aa.HK ⟨h, pl, tr⟩ (aa.fC h row i)) with hpx | ⟨c0, c1, c2, c3, hpx⟩
   ·refine rC da 1 rfl ?_
    obtain rfl : N = k := by omega
    rw [show aa.vN (aa.fC h row i) Vo N = (aa.fC h row i) from hSl ▸ aa.Lu (by omega)]
    refine rC da 3 rfl ?_
    refine ai (Ky h bf pp pl cp pt tr ct pd nd cd pk ck R hP hT hcp hB hBt hpl htl (some ⟨b25, 0, none⟩) N (aa.fC h row i) Rk (Row (aP 3 .i64) (some ⟨b25, 0, none⟩) N N (aa.fC h row i)) hRk (fun _ _ hh => by rw [hSl]; exact hh.rd) hf (aa.lG h row i) aa.ud N hSl (E5 (aa.iA hde) (by omega)) hpx) V.LI  rfl (.cons jA (.cons j6 (.cons az (.cons j6 .nil)))) rfl ?_
    rintro _ _ ⟨rfl, rfl⟩
    refine rO da 3 rfl ?_
    refine cn V.pj rfl ?_
    intro b15
    refine aT (aH V.ma rfl rfl (us := [_, _, _, _]) rfl rfl (by exact cZ) (by exact Nat.le_of_ble_eq_true rfl) rfl) ?_
    refine rO da 23 rfl ?_
    exact ak (aB rfl) (.inl ⟨aa.KD (f := ⟨h, pl, tr⟩) (by omega) hpx hres, rfl, P, hPl, rfl⟩) (sub (.cons az (.cons JT (.cons az (.cons n4 (.cons bX .nil))))) E6)
   ·refine rC da 1 rfl ?_
    obtain rfl : N = k := by omega
    rw [show aa.vN (aa.fC h row i) Vo N = (aa.fC h row i) from hSl ▸ aa.Lu (by omega)]
    refine rC da 3 rfl ?_
    refine ai (LY h bf pp pl cp pt tr ct pd nd cd pk ck R hP hT hcp hB hBt hpl htl (some ⟨b25, 0, none⟩) N (aa.fC h row i) Rk (Row (aP 3 .i64) (some ⟨b25, 0, none⟩) N N (aa.fC h row i)) hRk (fun _ _ hh => by rw [hSl]; exact hh.rd) hf (aa.lG h row i) aa.ud N hSl (E5 (aa.iA hde) (by omega)) c0 c1 c2 c3 hpx) V.LI  rfl (.cons jA (.cons j6 (.cons az (.cons j6 .nil)))) rfl ?_
    rintro _ _ ⟨rfl, rfl⟩
    refine rO da 3 rfl ?_
    refine cn V.pj rfl ?_
    intro b15
    refine aT (aH V.ma rfl rfl (us := [_, _, _, _]) rfl rfl (by exact cZ) (by exact Nat.le_of_ble_eq_true rfl) rfl) ?_
    refine rO da 13 rfl ?_
    have hnn : 0 ≤ (i : Int) * p.dx := Int.mul_nonneg (by omega) (by omega)
    have hnm : 0 ≤ (yy : Int) * p.dy := Int.mul_nonneg (by omega) (by omega)
    have hxx := hix i (by omega) (by omega)
    have hyv := hiy yy (by omega) (by omega)
    have hpi := aa.wk (w := h.w) (h := h.h) (x := (p.x + ((i : Int) * p.dx))) (y := (p.y + ((yy : Int) * p.dy))) ⟨by omega, by omega⟩ ⟨by omega, by omega⟩
    have h44 : 4 * h.w * h.h = 4 * (h.w * h.h) := Int.mul_assoc _ _ _
    refine a7 ?_
    refine oV (bJ V.ei rfl LP (vs := [_, _, _]) rfl rfl) ?_
    refine oV (aG V.Lq rfl) ?_
    refine oV (ae V.s3 rfl xf rfl) ?_
    refine rO da 2 rfl ?_
    refine oV (ae V.s3 rfl xf rfl) ?_
    refine cS da 3 rfl (by omega) ?_
    refine oV (ae V.s3 rfl xf rfl) ?_
    refine rO da 2 rfl ?_
    refine oV (ae V.s3 rfl xf rfl) ?_
    refine cS da 2 rfl (by omega) ?_
    refine oV (bJ V.ma rfl an (vs := [_, _, _, _]) rfl rfl) ?_
    refine ai (M7 h.w h.h hs q n c hn hcap P (p.x + ((i : Int) * p.dx)) (p.y + ((yy : Int) * p.dy)) ⟨by omega, by omega⟩ ⟨by omega, by omega⟩ c0 c1 c2 c3) V.OI  rfl (.cons Jg .nil) rfl ?_
    rintro _ _ ⟨rfl, rfl⟩
    refine cS da 7 rfl (by omega) ?_
    rw [show i * N * D + N * D = (i + 1) * N * D from by rw [Nat.add_mul, Nat.add_mul, Nat.one_mul]]
    exact j3 (i + 1) (aa.fC h row i) (aa.lE h.w P (p.x + ((i : Int) * p.dx)) (p.y + ((yy : Int) * p.dy)) [c0, c1, c2, c3]) ⟨⟨by omega, hSl, by rw [aa.EJ rfl (by omega)]; exact hPl, aa.LX (f := ⟨h, pl, tr⟩) (by omega) hpx hres⟩, by omega⟩ (jg (dp ln)) (sub (.cons n4 (.cons jA (.cons j6 (.cons j6 (.cons bX (ar (.cons az (.cons bX (.cons az .nil))))))))) cC)
 ·refine rC da 11 rfl ?_
  exact ak (aB rfl) (.inr ⟨P, aa.KB (f := ⟨h, pl, tr⟩) (by omega) hres, hPl, rfl, rfl⟩) (sub (.cons jA (.cons jA (.cons jA (.cons jA (.cons jA .nil))))) mw)
theorem Gy (kind : Int) (p1 : Option Addr) (c1 n1 : Nat) (L1 : List Int) (R1 : ab) (hR1 : ∀ w0 h, R1 w0 h → aR U5 p1 n1 L1 w0 h) (hn1 : L1.length = n1) (hB1 : aj.av L1) (p2 : Option Addr) (c2 n2 : Nat) (L2 : List Int) (R2 : ab) (hR2 : ∀ w0 h, R2 w0 h → aR U5 p2 n2 L2 w0 h) (hn2 : L2.length = n2) (hB2 : aj.av L2) (back : Nat) (hbk : 1 ≤ back ∧ back ≤ 8) (h2 : n2 = 0 ∨ n2 = n1) (hk : 0 ≤ kind) (hn1s : n1 < 500000000) (hq : 4 < kind) : aE Tryz.prog 120 [.int .i64 kind, .slice p1 n1 c1, .slice p2 n2 c2, .int .i64 (back : Int)] [R1, R2] (aO fun v G => v = .tuple #[.slice none 0 0, .bool false] ∧ G = [R1, R2]) := by
 refine (BJ kind p1 c1 n1 L1 R1 hR1 hn1 hB1 p2 c2 n2 L2 R2 hR2 hn2 hB2 back hbk h2 hk hn1s).mono ?_
 rintro e2 G ⟨v, rfl, (⟨_, rfl, rfl⟩ | ⟨h, _⟩)⟩
 ·exact ⟨_, rfl, rfl, rfl⟩
 ·exact absurd hq h
theorem yU (kind : Int) (p1 : Option Addr) (c1 n1 : Nat) (L1 : List Int) (R1 : ab) (hR1 : ∀ w0 h, R1 w0 h → aR U5 p1 n1 L1 w0 h) (hn1 : L1.length = n1) (hB1 : aj.av L1) (p2 : Option Addr) (c2 n2 : Nat) (L2 : List Int) (R2 : ab) (hR2 : ∀ w0 h, R2 w0 h → aR U5 p2 n2 L2 w0 h) (hn2 : L2.length = n2) (hB2 : aj.av L2) (back : Nat) (hbk : 1 ≤ back ∧ back ≤ 8) (h2 : n2 = 0 ∨ n2 = n1) (hk : 0 ≤ kind) (hn1s : n1 < 500000000) (hq : ¬ 4 < kind) : aE Tryz.prog 120 [.int .i64 kind, .slice p1 n1 c1, .slice p2 n2 c2, .int .i64 (back : Int)] [R1, R2] (aO fun v G => ∃ a : Option Addr × Nat, v = .tuple #[.slice a.1 n1 a.2, .bool true] ∧ G = [Row U5 a.1 n1 a.2 (aa.gl kind L1 L2 back), R1, R2]) := by
 refine (BJ kind p1 c1 n1 L1 R1 hR1 hn1 hB1 p2 c2 n2 L2 R2 hR2 hn2 hB2 back hbk h2 hk hn1s).mono ?_
 rintro e2 G ⟨v, rfl, (⟨h, _⟩ | ⟨_, q, cq, rfl, rfl⟩)⟩
 ·exact absurd h hq
 ·exact ⟨_, rfl, (q, cq), rfl, rfl⟩
theorem JG (h : aa.Hd) (bf : Nat) (pp : Option Addr) (pl : List Int) (cp : Nat) (pt : Option Addr) (tr : List Int) (ct : Nat) (pd : Option Addr) (nd cd : Nat) (pk : Option Addr) (ck : Nat) (R : ab) (hP : ∀ w0 h, R w0 h → aR U5 pp pl.length pl w0 h) (hT : ∀ w0 h, R w0 h → aR U5 pt tr.length tr w0 h) (hcp : pl.length ≤ cp) (hB : aj.av pl) (hBt : aj.av tr) (hpl : pl.length < 500000000) (htl : tr.length < 500000000) (Rk : ab) (hRk : ∀ w0 h_, Rk w0 h_ → aR (aP 3 .i64) pk (aa.bA h tr).length (aa.bA h tr) w0 h_) (hf : aa.gq ⟨h, pl, tr⟩) (hs : aa.bN h.w h.h = 0) (q : Option Addr) (n c : Nat) (hn : (n : Int) = 4 * h.w * h.h) (hcap : n ≤ c) (dv : List Int) (hpx0 : dv.length = n) (p : aa.Ps) (hp : aa.kS p h.w h.h) (yy : Nat) (hyy : (yy : Int) < p.h) (pb : Option Addr) (cb : Nat) (row : List Int) (hrl : row.length < 500000000) (hBr : aj.av row) (Rb : ab) (hRb : ∀ w0 h, Rb w0 h → aR U5 pb row.length row w0 h) (hbits : ∀ i : Nat, (i : Int) < p.w → i * (aa.parts h.ax).toNat * h.dep.toNat + (aa.parts h.ax).toNat * h.dep.toNat ≤ 8 * row.length) (nl : Nat) (hnl : row.length = nl) (hr : aa.gK ⟨h, pl, tr⟩ p (yy : Int) row p.w.toNat 0 dv = none) : aE Tryz.prog 121 [.pointer (some ⟨bf, 0, none⟩), .agg #[.int .i64 h.w, .int .i64 h.h, .slice q n c], .agg #[.int .i64 p.x, .int .i64 p.y, .int .i64 p.dx, .int .i64 p.dy, .int .i64 p.w, .int .i64 p.h], .int .i64 (yy : Int), .slice pb nl cb] [ao bf 90 [.int .i64 h.w, .int .i64 h.h, .int .i64 h.dep, .int .i64 h.ax, .bool h.cm, .slice pp pl.length cp, .slice pt tr.length ct, .slice pd nd cd, .slice pk (aa.bA h tr).length ck], Row (aP 62 .u16) q n c dv, Rk, Rb, R] (aO fun v G => v = .bool false ∧ ∃ P, P.length = n ∧ G = [ao bf 90 [.int .i64 h.w, .int .i64 h.h, .int .i64 h.dep, .int .i64 h.ax, .bool h.cm, .slice pp pl.length cp, .slice pt tr.length ct, .slice pd nd cd, .slice pk (aa.bA h tr).length ck], Row (aP 62 .u16) q n c P, Rk, Rb, R]) := by
 subst hnl
 refine (FI h bf pp pl cp pt tr ct pd nd cd pk ck R hP hT hcp hB hBt hpl htl Rk hRk hf hs q n c hn hcap dv hpx0 p hp yy hyy pb cb row hrl hBr Rb hRb hbits).mono ?_
 rintro e2 G ⟨v, rfl, (⟨_, rfl, P, h1, rfl⟩ | ⟨P, h, _⟩)⟩
 ·exact ⟨_, rfl, rfl, P, h1, rfl⟩
 ·rw [hr] at h; cases h
theorem K9 (h : aa.Hd) (bf : Nat) (pp : Option Addr) (pl : List Int) (cp : Nat) (pt : Option Addr) (tr : List Int) (ct : Nat) (pd : Option Addr) (nd cd : Nat) (pk : Option Addr) (ck : Nat) (R : ab) (hP : ∀ w0 h, R w0 h → aR U5 pp pl.length pl w0 h) (hT : ∀ w0 h, R w0 h → aR U5 pt tr.length tr w0 h) (hcp : pl.length ≤ cp) (hB : aj.av pl) (hBt : aj.av tr) (hpl : pl.length < 500000000) (htl : tr.length < 500000000) (Rk : ab) (hRk : ∀ w0 h_, Rk w0 h_ → aR (aP 3 .i64) pk (aa.bA h tr).length (aa.bA h tr) w0 h_) (hf : aa.gq ⟨h, pl, tr⟩) (hs : aa.bN h.w h.h = 0) (q : Option Addr) (n c : Nat) (hn : (n : Int) = 4 * h.w * h.h) (hcap : n ≤ c) (dv : List Int) (hpx0 : dv.length = n) (p : aa.Ps) (hp : aa.kS p h.w h.h) (yy : Nat) (hyy : (yy : Int) < p.h) (pb : Option Addr) (cb : Nat) (row : List Int) (hrl : row.length < 500000000) (hBr : aj.av row) (Rb : ab) (hRb : ∀ w0 h, Rb w0 h → aR U5 pb row.length row w0 h) (hbits : ∀ i : Nat, (i : Int) < p.w → i * (aa.parts h.ax).toNat * h.dep.toNat + (aa.parts h.ax).toNat * h.dep.toNat ≤ 8 * row.length) (nl : Nat) (hnl : row.length = nl) (P2 : List Int) (hr : aa.gK ⟨h, pl, tr⟩ p (yy : Int) row p.w.toNat 0 dv = some P2) : aE Tryz.prog 121 [.pointer (some ⟨bf, 0, none⟩), .agg #[.int .i64 h.w, .int .i64 h.h, .slice q n c], .agg #[.int .i64 p.x, .int .i64 p.y, .int .i64 p.dx, .int .i64 p.dy, .int .i64 p.w, .int .i64 p.h], .int .i64 (yy : Int), .slice pb nl cb] [ao bf 90 [.int .i64 h.w, .int .i64 h.h, .int .i64 h.dep, .int .i64 h.ax, .bool h.cm, .slice pp pl.length cp, .slice pt tr.length ct, .slice pd nd cd, .slice pk (aa.bA h tr).length ck], Row (aP 62 .u16) q n c dv, Rk, Rb, R] (aO fun v G => P2.length = n ∧ v = .bool true ∧ G = [ao bf 90 [.int .i64 h.w, .int .i64 h.h, .int .i64 h.dep, .int .i64 h.ax, .bool h.cm, .slice pp pl.length cp, .slice pt tr.length ct, .slice pd nd cd, .slice pk (aa.bA h tr).length ck], Row (aP 62 .u16) q n c P2, Rk, Rb, R]) := by
 subst hnl
 refine (FI h bf pp pl cp pt tr ct pd nd cd pk ck R hP hT hcp hB hBt hpl htl Rk hRk hf hs q n c hn hcap dv hpx0 p hp yy hyy pb cb row hrl hBr Rb hRb hbits).mono ?_
 rintro e2 G ⟨v, rfl, (⟨h, _⟩ | ⟨P, h, h1, rfl, rfl⟩)⟩
 ·rw [hr] at h; cases h
 ·rw [hr] at h; cases h; exact ⟨_, rfl, h1, rfl, rfl⟩
structure EZ where
 a : Nat
 pz : Option Addr
 cz : Nat
 pa : Option Addr
 na : Nat
 ca : Nat
 A : List Int
 P : List Int
set_option maxHeartbeats 8000000 in
theorem AT (h : aa.Hd) (bf : Nat) (pp : Option Addr) (pl : List Int) (cp : Nat) (pt : Option Addr) (tr : List Int) (ct : Nat) (pd : Option Addr) (nd cd : Nat) (pk : Option Addr) (ck : Nat) (R : ab) (hP : ∀ w0 h, R w0 h → aR U5 pp pl.length pl w0 h) (hT : ∀ w0 h, R w0 h → aR U5 pt tr.length tr w0 h) (hcp : pl.length ≤ cp) (hB : aj.av pl) (hBt : aj.av tr) (hpl : pl.length < 500000000) (htl : tr.length < 500000000) (Rk : ab) (hRk : ∀ w0 h_, Rk w0 h_ → aR (aP 3 .i64) pk (aa.bA h tr).length (aa.bA h tr) w0 h_) (hf : aa.gq ⟨h, pl, tr⟩) (hs : aa.bN h.w h.h = 0) (q : Option Addr) (n c : Nat) (hn : (n : Int) = 4 * h.w * h.h) (hcap : n ≤ c) (dv : List Int) (hpx0 : dv.length = n) (p : aa.Ps) (hp : aa.kS p h.w h.h) (Dt : List Int) (hDB : aj.av Dt) (hDl : Dt.length < 500000000) (nr : Nat) (hnr : (nr : Int) = aa.ff p.w (aa.parts h.ax * h.dep)) (back : Nat) (hback : (back : Int) = max 1 ((aa.parts h.ax * h.dep) / 8)) (at0 : Nat) (hat : at0 + p.h.toNat * (1 + nr) ≤ Dt.length) (pb : Option Addr) (cb : Nat) (Rb : ab) (hRb : ∀ w0 h, Rb w0 h → aR U5 pb (Dt.length - at0) (Dt.drop at0) w0 h) (hcb : Dt.length - at0 ≤ cb) : aE Tryz.prog 86 [.pointer (some ⟨bf, 0, none⟩), .agg #[.int .i64 h.w, .int .i64 h.h, .slice q n c], .agg #[.int .i64 p.x, .int .i64 p.y, .int .i64 p.dx, .int .i64 p.dy, .int .i64 p.w, .int .i64 p.h], .slice pb (Dt.length - at0) cb] [ao bf 90 [.int .i64 h.w, .int .i64 h.h, .int .i64 h.dep, .int .i64 h.ax, .bool h.cm, .slice pp pl.length cp, .slice pt tr.length ct, .slice pd nd cd, .slice pk (aa.bA h tr).length ck], Row (aP 62 .u16) q n c dv, Rk, Rb, R] (aO fun v G => (aa.ft ⟨h, pl, tr⟩ Dt nr back p p.h.toNat 0 at0 [] dv = none ∧ v = .tuple #[.slice none 0 0, .bool false] ∧ ∃ P, P.length = n ∧ G = [ao bf 90 [.int .i64 h.w, .int .i64 h.h, .int .i64 h.dep, .int .i64 h.ax, .bool h.cm, .slice pp pl.length cp, .slice pt tr.length ct, .slice pd nd cd, .slice pk (aa.bA h tr).length ck], Row (aP 62 .u16) q n c P, Rk, Rb, R]) ∨ ∃ at2 P pz cz, aa.ft ⟨h, pl, tr⟩ Dt nr back p p.h.toNat 0 at0 [] dv = some (at2, P) ∧ P.length = n ∧ at2 = at0 + p.h.toNat * (1 + nr) ∧ (∀ w0 h, Rb w0 h → aR U5 pz (Dt.length - at2) (Dt.drop at2) w0 h) ∧ Dt.length - at2 ≤ cz ∧ v = .tuple #[.slice pz (Dt.length - at2) cz, .bool true] ∧ G = [ao bf 90 [.int .i64 h.w, .int .i64 h.h, .int .i64 h.dep, .int .i64 h.ax, .bool h.cm, .slice pp pl.length cp, .slice pt tr.length ct, .slice pd nd cd, .slice pk (aa.bA h tr).length ck], Row (aP 62 .u16) q n c P, Rk, Rb, R]) := by
 refine au [(0, _), (1, _), (2, _), (3, _)] Tryz.func86 rfl Tryz.ntmps86 rfl rfl ?_
 intro w0 F
 have hde : aa.deep h.ax h.dep := by unfold aa.gq at hf; exact hf.1
 have hpc := aa.ie hde
 have hdi := aa.jM (aa.iA hde)
 have hpo := hp
 unfold aa.kS aa.jV at hpo
 obtain ⟨⟨hx0, hx1, hy0, hy1, hdx, hdy, hw0, hw1, hh0, hh1⟩, hix, hiy⟩ := hpo
 have hsd := aa.jY hs
 have hbits := aa.mh hde
 have hbk : 1 ≤ back ∧ back ≤ 8 := by omega
 obtain ⟨RES, hRES⟩ : ∃ r, r = aa.ft ⟨h, pl, tr⟩ Dt nr back p p.h.toNat 0 at0 [] dv := ⟨_, rfl⟩
 rw [← hRES]
 refine rT da 2 rfl ?_
 refine eL rfl (cs := [_, _, _]) rfl rfl ?_
 intro b5
 refine eL rfl (cs := [_, _, _, _, _, _]) rfl rfl ?_
 intro b6
 refine rO da 5 rfl ?_
 refine wN [pz 0 [] [0], pz 1 [0] [], pz 3 [1] [], pz 7 [2] [], pz 15 [3] [], pz 31 [4] [], pz 0 [] [0], pz 64 [6] [], pz 192 [7] [], pz 448 [8] [], pz 960 [9] [], pz 2047 [5, 10] [], pz 4095 [11] []] [⟨fun y => ao b6 145 [.int .i64 p.x, .int .i64 p.y, .int .i64 p.dx, .int .i64 p.dy, .int .i64 p.w, .int .i64 p.h], none, none, []⟩, ⟨fun y => ao b5 26 [.int .i64 h.w, .int .i64 h.h, .slice q n c], none, none, []⟩, ⟨fun y => ao bf 90 [.int .i64 h.w, .int .i64 h.h, .int .i64 h.dep, .int .i64 h.ax, .bool h.cm, .slice pp pl.length cp, .slice pt tr.length ct, .slice pd nd cd, .slice pk (aa.bA h tr).length ck], none, none, [4, 10]⟩, ⟨fun y => Row (aP 62 .u16) q n c dv, none, none, []⟩, ⟨fun y => Rk, none, none, []⟩, ⟨fun y => Rb, none, none, []⟩, ⟨fun y => R, none, none, []⟩] F V.mixed ?_
 refine nM ?_
 refine nN ?_
 refine nG V.iD ?_
 refine nG V.qQ ?_
 refine nR (fun y FF hA => ae V.s3 rfl an rfl) ?_
 refine nE (fun y FF hA => bK (Post := []) (iM h.ax) V.pf rfl .nil (fun v G h => by rcases h with ⟨rfl, rfl⟩; exact ⟨rfl, .refl _⟩)) ?_
 refine nM ?_
 refine nN ?_
 refine nG V.iD ?_
 refine nG V.lU ?_
 refine nR (fun y FF hA => ae V.s3 rfl an rfl) ?_
 refine nV (fun y hA L => jF (r := (aa.parts h.ax * h.dep)) rfl rfl wI) ?_
 refine nA ?_
 refine aU ?_
 intro y hA
 clear hA
 refine ba ?_
 refine bZ [(0, .pointer (some ⟨bf, 0, none⟩)), (3, .slice pb (Dt.length - at0) cb), (5, .pointer (some ⟨b5, 0, none⟩)), (6, .pointer (some ⟨b6, 0, none⟩)), (10, .int .i64 (aa.parts h.ax * h.dep))] (.cons (d := 0) rfl (.cons (d := 3) rfl (.cons (d := 5) rfl (.cons (d := 6) rfl (.cons (d := 10) rfl (.nil _)))))) ?_
 refine bP (M := ao b6 145 [.int .i64 p.x, .int .i64 p.y, .int .i64 p.dx, .int .i64 p.dy, .int .i64 p.w, .int .i64 p.h] :: ao b5 26 [.int .i64 h.w, .int .i64 h.h, .slice q n c] :: ao bf 90 [.int .i64 h.w, .int .i64 h.h, .int .i64 h.dep, .int .i64 h.ax, .bool h.cm, .slice pp pl.length cp, .slice pt tr.length ct, .slice pd nd cd, .slice pk (aa.bA h tr).length ck] :: Row (aP 62 .u16) q n c dv :: Rk :: Rb :: R :: F) (fun _ _ h => h) ?_
 refine rC da 3 rfl ?_
 refine oV (ae V.s3 rfl an rfl) ?_
 refine oV (aJ rfl) ?_
 refine ai (FO p.w (aa.parts h.ax * h.dep) ⟨hw0, hw1⟩ ⟨by omega, by omega⟩) V.Jz  rfl .nil rfl ?_
 rintro _ _ ⟨rfl, rfl⟩
 rw [← hnr]
 refine oV (aJ rfl) ?_
 refine oV (fR rfl rfl (by omega) (jH (by omega) (by omega) (by omega))) ?_
 refine oV (cH (v := .int .i64 (back : Int)) (zO rfl rfl) (congrArg (Value.int .i64) ((aa.JO _).trans hback.symm))) ?_
 refine rO da 13 rfl ?_
 refine oV (ae V.s3 rfl an rfl) ?_
 refine rO da 4 rfl ?_
 refine gT (Row U5 none 0 0 []) (Row.nil _ _ _) ?_
 refine ik (fun (yv : Nat) (s : EZ) => [(0, .pointer (some ⟨bf, 0, none⟩)), (3, .slice s.pz (Dt.length - s.a) s.cz), (5, .pointer (some ⟨b5, 0, none⟩)), (6, .pointer (some ⟨b6, 0, none⟩)), (11, .int .i64 (nr : Int)), (12, .int .i64 (back : Int)), (13, .slice s.pa s.na s.ca), (37, .int .i64 p.h), (38, .int .i64 (yv : Int))]) (fun (yv : Nat) (s : EZ) => Rb :: Row U5 s.pa s.na s.ca s.A :: ao b5 26 [.int .i64 h.w, .int .i64 h.h, .slice q n c] :: ao b6 145 [.int .i64 p.x, .int .i64 p.y, .int .i64 p.dx, .int .i64 p.dy, .int .i64 p.w, .int .i64 p.h] :: ao bf 90 [.int .i64 h.w, .int .i64 h.h, .int .i64 h.dep, .int .i64 h.ax, .bool h.cm, .slice pp pl.length cp, .slice pt tr.length ct, .slice pd nd cd, .slice pk (aa.bA h tr).length ck] :: Row (aP 62 .u16) q n c s.P :: Rk :: R :: F) (fun (yv : Nat) (s : EZ) => (yv : Int) ≤ p.h ∧ s.a = at0 + yv * (1 + nr) ∧ s.P.length = n ∧ s.A.length = s.na ∧ (s.na = 0 ∨ s.na = nr) ∧ aj.av s.A ∧ (∀ w0 h, Rb w0 h → aR U5 s.pz (Dt.length - s.a) (Dt.drop s.a) w0 h) ∧ Dt.length - s.a ≤ s.cz ∧ aa.ft ⟨h, pl, tr⟩ Dt nr back p (p.h.toNat - yv) yv s.a s.A s.P = RES) (fun (yv : Nat) (s : EZ) => p.h.toNat - yv) (i2 (0) (⟨at0, pb, cb, none, 0, 0, [], dv⟩) ?_ (fZ (dp ln)) (sub (.cons n4 (ar (.cons az (.cons dS (.cons dS (.cons dS (.cons dS (.cons dS .nil)))))))) aw)) ?_
 ·exact ⟨by omega, by simp, hpx0, rfl, .inl rfl, aa.jx, hRb, hcb, hRES.symm⟩
 intro yv s
 rintro ⟨hy, ha, hPl, hAl, hAn, hAB, hz, hcz, hres⟩
 refine rL da 6 rfl ?_
 refine aN rfl (fun h39 => ?_) (fun h39 => ?_)
 ·refine rC da 10 rfl ?_
  rcases (aa.NC ⟨h, pl, tr⟩ Dt nr back p yv s.a s.A s.P) with hk4 | ⟨hk4, hr⟩ | ⟨hk4, P2, hr⟩
  ·refine rC da 1 rfl ?_
   have hyh : (yv : Int) < p.h := by omega
   have hya : (yv + 1) * (1 + nr) ≤ p.h.toNat * (1 + nr) := Nat.mul_le_mul_right _ (by omega)
   rw [Nat.add_mul, Nat.one_mul] at hya
   have hKD : U5.g (Dt.drop s.a) 0 = (Dt.getD s.a 0) := aa.gD Dt s.a 0
   have hKB : 0 ≤ U5.g (Dt.drop s.a) 0 ∧ U5.g (Dt.drop s.a) 0 < 256 := hKD ▸ hDB.get _
   have hdl : (Dt.drop s.a).length = Dt.length - s.a := List.length_drop
   have hL1l : ((Dt.drop (s.a + 1)).take nr).length = nr := by rw [List.length_take, List.length_drop]; omega
   have hUl : (aa.gl (Dt.getD s.a 0) ((Dt.drop (s.a + 1)).take nr) s.A back).length = nr := (aa.uo ..).trans hL1l
   have hS1 : ∀ w0 h, Rb w0 h → aR U5 (eh s.pz 1 s.cz 1) nr ((Dt.drop (s.a + 1)).take nr) w0 h := fun w0 h hh => by have := lL (cap := 0) (gS (c := U5) hz hdl 1 s.cz (by omega) hcz) nr (by omega) w0 h hh; rwa [List.drop_drop] at this
   refine wN [pz 0 [] [3], pz 1 [0] [], pz 3 [1] [], pz 7 [2] [], pz 0 [] [3], pz 0 [] [11], pz 32 [5] [], pz 112 [4, 6] [], pz 0 [] [13], pz 0 [] [12], pz 1023 [3, 7, 8, 9] [], pz 2047 [10] [], pz 4095 [11] [], pz 4095 [11] [], pz 8191 [12] [], pz 32767 [13] []] [⟨fun y => Rb, none, none, [1, 2, 10]⟩, ⟨fun y => Row U5 s.pa s.na s.ca s.A, none, none, [10]⟩, ⟨fun y => ao b5 26 [.int .i64 h.w, .int .i64 h.h, .slice q n c], none, none, []⟩, ⟨fun y => ao b6 145 [.int .i64 p.x, .int .i64 p.y, .int .i64 p.dx, .int .i64 p.dy, .int .i64 p.w, .int .i64 p.h], none, none, []⟩, ⟨fun y => ao bf 90 [.int .i64 h.w, .int .i64 h.h, .int .i64 h.dep, .int .i64 h.ax, .bool h.cm, .slice pp pl.length cp, .slice pt tr.length ct, .slice pd nd cd, .slice pk (aa.bA h tr).length ck], none, none, []⟩, ⟨fun y => Row (aP 62 .u16) q n c s.P, none, none, []⟩, ⟨fun y => Rk, none, none, []⟩, ⟨fun y => R, none, none, []⟩] F V.mixed ?_
   refine nM ?_
   refine nR (fun y FF hA => xI V.cy (by exact bE hz an)) ?_
   refine nR (fun y FF hA => xL V.s5 (by exact bE hz an)) ?_
   refine nV (fun y hA L => cH (v := .int .i64 (Dt.getD s.a 0)) (bC V.u5 Tryz.underlying3 rfl (aa.zL hKB)) (congrArg (Value.int .i64) hKD)) ?_
   iterate 2 refine nM ?_
   refine nV (fun y hA L => cH (v := .int .i64 ((nr + 1 : Nat) : Int)) (dj (r := 1 + (nr : Int)) rfl rfl wI) (congrArg (Value.int .i64) (by omega))) ?_
   refine nV (fun y hA L => dQ 1 (nr + 1) s.cz V.cy rfl ⟨_, rfl⟩ ⟨_, rfl⟩ rfl (by omega) (by omega) (by omega)) ?_
   iterate 2 refine nM ?_
   refine nE (fun y FF hA => bK (Post := [Rb, Row U5 s.pa s.na s.ca s.A]) (Gy (Dt.getD s.a 0) (eh s.pz 1 s.cz 1) (s.cz - 1) nr ((Dt.drop (s.a + 1)).take nr) Rb hS1 hL1l (aa.fF (aa.ek hDB _) _) s.pa s.ca s.na s.A (Row U5 s.pa s.na s.ca s.A) (fun _ _ hh => hh.rd) hAl hAB back hbk (by omega) (hDB.get _).1 (by omega) hk4) V.DG rfl (bD .nil) (fun v G h => by rcases h with ⟨rfl, rfl⟩; exact ⟨rfl, .refl _⟩)) ?_
   refine nM ?_
   iterate 2 refine nV (fun y hA L => eW rfl rfl) ?_
   iterate 2 refine nA ?_
   refine aU ?_
   intro y hA
   clear hA
   refine ba ?_
   refine bZ [(0, .pointer (some ⟨bf, 0, none⟩)), (3, .slice s.pz (Dt.length - s.a) s.cz), (5, .pointer (some ⟨b5, 0, none⟩)), (6, .pointer (some ⟨b6, 0, none⟩)), (11, .int .i64 (nr : Int)), (12, .int .i64 (back : Int)), (14, .int .i64 (yv : Int)), (15, .slice none 0 0), (16, .bool false), (37, .int .i64 p.h), (38, .int .i64 (yv : Int))] (.cons (d := 0) rfl (.cons (d := 3) rfl (.cons (d := 5) rfl (.cons (d := 6) rfl (.cons (d := 11) rfl (.cons (d := 12) rfl (.cons (d := 14) rfl (.cons (d := 15) rfl (.cons (d := 16) rfl (.cons (d := 37) rfl (.cons (d := 38) rfl (.nil _)))))))))))) ?_
   refine bP (M := Rb :: Row U5 s.pa s.na s.ca s.A :: ao b5 26 [.int .i64 h.w, .int .i64 h.h, .slice q n c] :: ao b6 145 [.int .i64 p.x, .int .i64 p.y, .int .i64 p.dx, .int .i64 p.dy, .int .i64 p.w, .int .i64 p.h] :: ao bf 90 [.int .i64 h.w, .int .i64 h.h, .int .i64 h.dep, .int .i64 h.ax, .bool h.cm, .slice pp pl.length cp, .slice pt tr.length ct, .slice pd nd cd, .slice pk (aa.bA h tr).length ck] :: Row (aP 62 .u16) q n c s.P :: Rk :: R :: F) (fun _ _ h => h) ?_
   refine bP (sub .nil (.keep (.skip (.keep (.keep (.keep (.keep (.keep (.keep .refl))))))))) ?_
   simp only [List.nil_append]
   refine rC da 30 rfl ?_
   (exact ak (G := [ao bf 90 [.int .i64 h.w, .int .i64 h.h, .int .i64 h.dep, .int .i64 h.ax, .bool h.cm, .slice pp pl.length cp, .slice pt tr.length ct, .slice pd nd cd, .slice pk (aa.bA h tr).length ck], Row (aP 62 .u16) q n c s.P, Rk, Rb, R]) (fy rfl rfl) (.inl ⟨aa.Gq hyh hk4 hres, rfl, s.P, hPl, rfl⟩) (sub (.cons ed (.cons ed (.cons ed (ar (.cons bX .nil))))) hJ))
  ·refine rC da 1 rfl ?_
   have hyh : (yv : Int) < p.h := by omega
   have hya : (yv + 1) * (1 + nr) ≤ p.h.toNat * (1 + nr) := Nat.mul_le_mul_right _ (by omega)
   rw [Nat.add_mul, Nat.one_mul] at hya
   have hKD : U5.g (Dt.drop s.a) 0 = (Dt.getD s.a 0) := aa.gD Dt s.a 0
   have hKB : 0 ≤ U5.g (Dt.drop s.a) 0 ∧ U5.g (Dt.drop s.a) 0 < 256 := hKD ▸ hDB.get _
   have hdl : (Dt.drop s.a).length = Dt.length - s.a := List.length_drop
   have hL1l : ((Dt.drop (s.a + 1)).take nr).length = nr := by rw [List.length_take, List.length_drop]; omega
   have hUl : (aa.gl (Dt.getD s.a 0) ((Dt.drop (s.a + 1)).take nr) s.A back).length = nr := (aa.uo ..).trans hL1l
   have hS1 : ∀ w0 h, Rb w0 h → aR U5 (eh s.pz 1 s.cz 1) nr ((Dt.drop (s.a + 1)).take nr) w0 h := fun w0 h hh => by have := lL (cap := 0) (gS (c := U5) hz hdl 1 s.cz (by omega) hcz) nr (by omega) w0 h hh; rwa [List.drop_drop] at this
   refine lx [pz 0 [] [3], pz 1 [0] [], pz 3 [1] [], pz 7 [2] [], pz 0 [] [3], pz 0 [] [11], pz 32 [5] [], pz 112 [4, 6] [], pz 0 [] [13], pz 0 [] [12], pz 1023 [3, 7, 8, 9] [], pz 2047 [10] [], pz 4095 [11] [], pz 4095 [11] [], pz 8191 [12] [], pz 32767 [13] []] [⟨fun y => Rb, none, none, [1, 2, 10]⟩, ⟨fun y => Row U5 s.pa s.na s.ca s.A, none, none, [10]⟩, ⟨fun y => ao b5 26 [.int .i64 h.w, .int .i64 h.h, .slice q n c], none, none, []⟩, ⟨fun y => ao b6 145 [.int .i64 p.x, .int .i64 p.y, .int .i64 p.dx, .int .i64 p.dy, .int .i64 p.w, .int .i64 p.h], none, none, []⟩, ⟨fun y => ao bf 90 [.int .i64 h.w, .int .i64 h.h, .int .i64 h.dep, .int .i64 h.ax, .bool h.cm, .slice pp pl.length cp, .slice pt tr.length ct, .slice pd nd cd, .slice pk (aa.bA h tr).length ck], none, none, []⟩, ⟨fun y => Row (aP 62 .u16) q n c s.P, none, none, []⟩, ⟨fun y => Rk, none, none, []⟩, ⟨fun y => R, none, none, []⟩, ⟨fun y => Row U5 (jB (y 10)).1 nr (jB (y 10)).2 (aa.gl (Dt.getD s.a 0) ((Dt.drop (s.a + 1)).take nr) s.A back), some 10, none, []⟩] F V.mixed (by kernel_rfl) rfl (fun _ => .refl _) (bV _ (bV _ (bV _ (bV _ (bV _ (bV _ (bV _ (bV _ (eA _ rfl (by intro y y2 h; simp only [h 10 (.inl rfl)]) ir))))))))) ?_
   refine nM ?_
   refine nR (fun y FF hA => xI V.cy (by exact bE hz an)) ?_
   refine nR (fun y FF hA => xL V.s5 (by exact bE hz an)) ?_
   refine nV (fun y hA L => cH (v := .int .i64 (Dt.getD s.a 0)) (bC V.u5 Tryz.underlying3 rfl (aa.zL hKB)) (congrArg (Value.int .i64) hKD)) ?_
   iterate 2 refine nM ?_
   refine nV (fun y hA L => cH (v := .int .i64 ((nr + 1 : Nat) : Int)) (dj (r := 1 + (nr : Int)) rfl rfl wI) (congrArg (Value.int .i64) (by omega))) ?_
   refine nV (fun y hA L => dQ 1 (nr + 1) s.cz V.cy rfl ⟨_, rfl⟩ ⟨_, rfl⟩ rfl (by omega) (by omega) (by omega)) ?_
   iterate 2 refine nM ?_
   refine gN (fun y v => .tuple #[.slice (jB v).1 nr (jB v).2, .bool true]) (fun y v => True) _ _ (fun y v => [Row U5 (jB v).1 nr (jB v).2 (aa.gl (Dt.getD s.a 0) ((Dt.drop (s.a + 1)).take nr) s.A back)]) _ (fun y => rfl) (fun y => rfl) (fun y => rfl) (fun y => rfl) (fun y FF hA => rI (α := Option Addr × Nat) (fun a => .tuple #[.slice a.1 nr a.2, .bool true]) jB (fun a => [Row U5 a.1 nr a.2 (aa.gl (Dt.getD s.a 0) ((Dt.drop (s.a + 1)).take nr) s.A back), Rb, Row U5 s.pa s.na s.ca s.A]) (yU (Dt.getD s.a 0) (eh s.pz 1 s.cz 1) (s.cz - 1) nr ((Dt.drop (s.a + 1)).take nr) Rb hS1 hL1l (aa.fF (aa.ek hDB _) _) s.pa s.ca s.na s.A (Row U5 s.pa s.na s.ca s.A) (fun _ _ hh => hh.rd) hAl hAB back hbk (by omega) (hDB.get _).1 (by omega) hk4) (fun a => rfl) V.DG rfl (bD .nil)) (by intros; rfl) (by intros; rfl) (by intros; rfl) (by intro y y2 h; simp only [h 10 (.inl rfl)]) (by intro y y2 h; rfl) ?_
   refine bQ _ (fun y => rfl) rfl rfl rfl (fun y hA L => du (aJ rfl) ⟨rfl, rfl⟩) (by intros; rfl) (by intro y y2 h; simp only [h 10 (.inr (by decide))]) ?_
   refine bQ _ (fun y => rfl) rfl rfl rfl (fun y hA L => du (eW rfl rfl) ⟨rfl, rfl⟩) (by intros; rfl) (by intro y y2 h; simp only [h 10 (.inr (by decide))]) ?_
   refine nV (fun y hA L => eW rfl rfl) ?_
   refine bQ _ (fun y => rfl) rfl rfl rfl (fun y hA L => du (dY rfl) ⟨rfl, rfl⟩) (by intros; rfl) (by intro y y2 h; simp only [h 10 (.inr (by decide))]) ?_
   refine nA ?_
   refine aU ?_
   intro y hA
   clear hA
   refine ba ?_
   refine bZ [(0, .pointer (some ⟨bf, 0, none⟩)), (3, .slice s.pz (Dt.length - s.a) s.cz), (5, .pointer (some ⟨b5, 0, none⟩)), (6, .pointer (some ⟨b6, 0, none⟩)), (11, .int .i64 (nr : Int)), (12, .int .i64 (back : Int)), (14, .int .i64 (yv : Int)), (15, .slice (jB (y 10)).1 nr (jB (y 10)).2), (16, .bool true), (37, .int .i64 p.h), (38, .int .i64 (yv : Int))] (.cons (d := 0) rfl (.cons (d := 3) rfl (.cons (d := 5) rfl (.cons (d := 6) rfl (.cons (d := 11) rfl (.cons (d := 12) rfl (.cons (d := 14) rfl (.cons (d := 15) rfl (.cons (d := 16) rfl (.cons (d := 37) rfl (.cons (d := 38) rfl (.nil _)))))))))))) ?_
   refine bP (M := Rb :: Row U5 s.pa s.na s.ca s.A :: ao b5 26 [.int .i64 h.w, .int .i64 h.h, .slice q n c] :: ao b6 145 [.int .i64 p.x, .int .i64 p.y, .int .i64 p.dx, .int .i64 p.dy, .int .i64 p.w, .int .i64 p.h] :: ao bf 90 [.int .i64 h.w, .int .i64 h.h, .int .i64 h.dep, .int .i64 h.ax, .bool h.cm, .slice pp pl.length cp, .slice pt tr.length ct, .slice pd nd cd, .slice pk (aa.bA h tr).length ck] :: Row (aP 62 .u16) q n c s.P :: Rk :: R :: Row U5 (jB (y 10)).1 nr (jB (y 10)).2 (aa.gl (Dt.getD s.a 0) ((Dt.drop (s.a + 1)).take nr) s.A back) :: F) (fun _ _ h => h) ?_
   refine bP (sub .nil (.keep (.skip (.keep (.keep (.keep (.keep (.keep (.keep (.keep .refl)))))))))) ?_
   simp only [List.nil_append]
   generalize (jB (y 10)).1 = q15
   generalize (jB (y 10)).2 = c15
   refine rC da 7 rfl ?_
   refine ag rfl ?_
   refine oV (bJ V.ei rfl bW (vs := [_, _, _]) rfl rfl) ?_
   refine ag rfl ?_
   refine oV (bJ V.a145 rfl dH (vs := [_, _, _, _, _, _]) rfl rfl) ?_
   refine rO da 2 rfl ?_
   refine ag rfl ?_
   refine ai (JG h bf pp pl cp pt tr ct pd nd cd pk ck R hP hT hcp hB hBt hpl htl Rk hRk hf hs q n c hn hcap s.P hPl p hp yv hyh q15 c15 (aa.gl (Dt.getD s.a 0) ((Dt.drop (s.a + 1)).take nr) s.A back) (by rw [hUl]; omega) (aa.tH ..) (Row U5 q15 nr c15 (aa.gl (Dt.getD s.a 0) ((Dt.drop (s.a + 1)).take nr) s.A back)) (fun _ _ hh => by rw [hUl]; exact hh.rd) (by rw [hUl]; exact aa.wL (by omega) (by omega) hnr) nr hUl hr) V.IA  rfl (.cons ed (.cons ed (.cons ed (.cons jA (.cons ed .nil))))) rfl ?_
   rintro _ _ ⟨rfl, P2, hP2, rfl⟩
   refine rO da 18 rfl ?_
   (exact ak (G := [ao bf 90 [.int .i64 h.w, .int .i64 h.h, .int .i64 h.dep, .int .i64 h.ax, .bool h.cm, .slice pp pl.length cp, .slice pt tr.length ct, .slice pd nd cd, .slice pk (aa.bA h tr).length ck], Row (aP 62 .u16) q n c P2, Rk, Rb, R]) (fy rfl rfl) (.inl ⟨aa.Hu hyh hk4 hr hres, rfl, P2, hP2, rfl⟩) (sub (ic (.cons bX (.cons az .nil))) oc))
  ·refine rC da 1 rfl ?_
   have hyh : (yv : Int) < p.h := by omega
   have hya : (yv + 1) * (1 + nr) ≤ p.h.toNat * (1 + nr) := Nat.mul_le_mul_right _ (by omega)
   rw [Nat.add_mul, Nat.one_mul] at hya
   have hKD : U5.g (Dt.drop s.a) 0 = (Dt.getD s.a 0) := aa.gD Dt s.a 0
   have hKB : 0 ≤ U5.g (Dt.drop s.a) 0 ∧ U5.g (Dt.drop s.a) 0 < 256 := hKD ▸ hDB.get _
   have hdl : (Dt.drop s.a).length = Dt.length - s.a := List.length_drop
   have hL1l : ((Dt.drop (s.a + 1)).take nr).length = nr := by rw [List.length_take, List.length_drop]; omega
   have hUl : (aa.gl (Dt.getD s.a 0) ((Dt.drop (s.a + 1)).take nr) s.A back).length = nr := (aa.uo ..).trans hL1l
   have hS1 : ∀ w0 h, Rb w0 h → aR U5 (eh s.pz 1 s.cz 1) nr ((Dt.drop (s.a + 1)).take nr) w0 h := fun w0 h hh => by have := lL (cap := 0) (gS (c := U5) hz hdl 1 s.cz (by omega) hcz) nr (by omega) w0 h hh; rwa [List.drop_drop] at this
   refine lx [pz 0 [] [3], pz 1 [0] [], pz 3 [1] [], pz 7 [2] [], pz 0 [] [3], pz 0 [] [11], pz 32 [5] [], pz 112 [4, 6] [], pz 0 [] [13], pz 0 [] [12], pz 1023 [3, 7, 8, 9] [], pz 2047 [10] [], pz 4095 [11] [], pz 4095 [11] [], pz 8191 [12] [], pz 32767 [13] []] [⟨fun y => Rb, none, none, [1, 2, 10]⟩, ⟨fun y => Row U5 s.pa s.na s.ca s.A, none, none, [10]⟩, ⟨fun y => ao b5 26 [.int .i64 h.w, .int .i64 h.h, .slice q n c], none, none, []⟩, ⟨fun y => ao b6 145 [.int .i64 p.x, .int .i64 p.y, .int .i64 p.dx, .int .i64 p.dy, .int .i64 p.w, .int .i64 p.h], none, none, []⟩, ⟨fun y => ao bf 90 [.int .i64 h.w, .int .i64 h.h, .int .i64 h.dep, .int .i64 h.ax, .bool h.cm, .slice pp pl.length cp, .slice pt tr.length ct, .slice pd nd cd, .slice pk (aa.bA h tr).length ck], none, none, []⟩, ⟨fun y => Row (aP 62 .u16) q n c s.P, none, none, []⟩, ⟨fun y => Rk, none, none, []⟩, ⟨fun y => R, none, none, []⟩, ⟨fun y => Row U5 (jB (y 10)).1 nr (jB (y 10)).2 (aa.gl (Dt.getD s.a 0) ((Dt.drop (s.a + 1)).take nr) s.A back), some 10, none, []⟩] F V.mixed (by kernel_rfl) rfl (fun _ => .refl _) (bV _ (bV _ (bV _ (bV _ (bV _ (bV _ (bV _ (bV _ (eA _ rfl (by intro y y2 h; simp only [h 10 (.inl rfl)]) ir))))))))) ?_
   refine nM ?_
   refine nR (fun y FF hA => xI V.cy (by exact bE hz an)) ?_
   refine nR (fun y FF hA => xL V.s5 (by exact bE hz an)) ?_
   refine nV (fun y hA L => cH (v := .int .i64 (Dt.getD s.a 0)) (bC V.u5 Tryz.underlying3 rfl (aa.zL hKB)) (congrArg (Value.int .i64) hKD)) ?_
   iterate 2 refine nM ?_
   refine nV (fun y hA L => cH (v := .int .i64 ((nr + 1 : Nat) : Int)) (dj (r := 1 + (nr : Int)) rfl rfl wI) (congrArg (Value.int .i64) (by omega))) ?_
   refine nV (fun y hA L => dQ 1 (nr + 1) s.cz V.cy rfl ⟨_, rfl⟩ ⟨_, rfl⟩ rfl (by omega) (by omega) (by omega)) ?_
   iterate 2 refine nM ?_
   refine gN (fun y v => .tuple #[.slice (jB v).1 nr (jB v).2, .bool true]) (fun y v => True) _ _ (fun y v => [Row U5 (jB v).1 nr (jB v).2 (aa.gl (Dt.getD s.a 0) ((Dt.drop (s.a + 1)).take nr) s.A back)]) _ (fun y => rfl) (fun y => rfl) (fun y => rfl) (fun y => rfl) (fun y FF hA => rI (α := Option Addr × Nat) (fun a => .tuple #[.slice a.1 nr a.2, .bool true]) jB (fun a => [Row U5 a.1 nr a.2 (aa.gl (Dt.getD s.a 0) ((Dt.drop (s.a + 1)).take nr) s.A back), Rb, Row U5 s.pa s.na s.ca s.A]) (yU (Dt.getD s.a 0) (eh s.pz 1 s.cz 1) (s.cz - 1) nr ((Dt.drop (s.a + 1)).take nr) Rb hS1 hL1l (aa.fF (aa.ek hDB _) _) s.pa s.ca s.na s.A (Row U5 s.pa s.na s.ca s.A) (fun _ _ hh => hh.rd) hAl hAB back hbk (by omega) (hDB.get _).1 (by omega) hk4) (fun a => rfl) V.DG rfl (bD .nil)) (by intros; rfl) (by intros; rfl) (by intros; rfl) (by intro y y2 h; simp only [h 10 (.inl rfl)]) (by intro y y2 h; rfl) ?_
   refine bQ _ (fun y => rfl) rfl rfl rfl (fun y hA L => du (aJ rfl) ⟨rfl, rfl⟩) (by intros; rfl) (by intro y y2 h; simp only [h 10 (.inr (by decide))]) ?_
   refine bQ _ (fun y => rfl) rfl rfl rfl (fun y hA L => du (eW rfl rfl) ⟨rfl, rfl⟩) (by intros; rfl) (by intro y y2 h; simp only [h 10 (.inr (by decide))]) ?_
   refine nV (fun y hA L => eW rfl rfl) ?_
   refine bQ _ (fun y => rfl) rfl rfl rfl (fun y hA L => du (dY rfl) ⟨rfl, rfl⟩) (by intros; rfl) (by intro y y2 h; simp only [h 10 (.inr (by decide))]) ?_
   refine nA ?_
   refine aU ?_
   intro y hA
   clear hA
   refine ba ?_
   refine bZ [(0, .pointer (some ⟨bf, 0, none⟩)), (3, .slice s.pz (Dt.length - s.a) s.cz), (5, .pointer (some ⟨b5, 0, none⟩)), (6, .pointer (some ⟨b6, 0, none⟩)), (11, .int .i64 (nr : Int)), (12, .int .i64 (back : Int)), (14, .int .i64 (yv : Int)), (15, .slice (jB (y 10)).1 nr (jB (y 10)).2), (16, .bool true), (37, .int .i64 p.h), (38, .int .i64 (yv : Int))] (.cons (d := 0) rfl (.cons (d := 3) rfl (.cons (d := 5) rfl (.cons (d := 6) rfl (.cons (d := 11) rfl (.cons (d := 12) rfl (.cons (d := 14) rfl (.cons (d := 15) rfl (.cons (d := 16) rfl (.cons (d := 37) rfl (.cons (d := 38) rfl (.nil _)))))))))))) ?_
   refine bP (M := Rb :: Row U5 s.pa s.na s.ca s.A :: ao b5 26 [.int .i64 h.w, .int .i64 h.h, .slice q n c] :: ao b6 145 [.int .i64 p.x, .int .i64 p.y, .int .i64 p.dx, .int .i64 p.dy, .int .i64 p.w, .int .i64 p.h] :: ao bf 90 [.int .i64 h.w, .int .i64 h.h, .int .i64 h.dep, .int .i64 h.ax, .bool h.cm, .slice pp pl.length cp, .slice pt tr.length ct, .slice pd nd cd, .slice pk (aa.bA h tr).length ck] :: Row (aP 62 .u16) q n c s.P :: Rk :: R :: Row U5 (jB (y 10)).1 nr (jB (y 10)).2 (aa.gl (Dt.getD s.a 0) ((Dt.drop (s.a + 1)).take nr) s.A back) :: F) (fun _ _ h => h) ?_
   refine bP (sub .nil (.keep (.skip (.keep (.keep (.keep (.keep (.keep (.keep (.keep .refl)))))))))) ?_
   simp only [List.nil_append]
   generalize (jB (y 10)).1 = q15
   generalize (jB (y 10)).2 = c15
   refine rC da 7 rfl ?_
   refine ag rfl ?_
   refine oV (bJ V.ei rfl bW (vs := [_, _, _]) rfl rfl) ?_
   refine ag rfl ?_
   refine oV (bJ V.a145 rfl dH (vs := [_, _, _, _, _, _]) rfl rfl) ?_
   refine rO da 2 rfl ?_
   refine ag rfl ?_
   refine ai (K9 h bf pp pl cp pt tr ct pd nd cd pk ck R hP hT hcp hB hBt hpl htl Rk hRk hf hs q n c hn hcap s.P hPl p hp yv hyh q15 c15 (aa.gl (Dt.getD s.a 0) ((Dt.drop (s.a + 1)).take nr) s.A back) (by rw [hUl]; omega) (aa.tH ..) (Row U5 q15 nr c15 (aa.gl (Dt.getD s.a 0) ((Dt.drop (s.a + 1)).take nr) s.A back)) (fun _ _ hh => by rw [hUl]; exact hh.rd) (by rw [hUl]; exact aa.wL (by omega) (by omega) hnr) nr hUl P2 hr) V.IA  rfl (.cons ed (.cons ed (.cons ed (.cons jA (.cons ed .nil))))) rfl ?_
   rintro _ _ ⟨hP2, rfl, rfl⟩
   refine rO da 7 rfl ?_
   refine o1 V.mixed (by kernel_rfl) ?_
   refine rR da 3 rfl ?_
   refine oR (cH (v := .int .i64 ((nr + 1 : Nat) : Int)) (dj (r := 1 + (nr : Int)) rfl rfl wI) (congrArg (Value.int .i64) (by omega))) ?_
   refine oR (dQ (nr + 1) (Dt.length - s.a) s.cz V.cy rfl ⟨_, rfl⟩ ⟨rfl, rfl⟩ rfl (by omega) (by omega) (by omega)) ?_
   refine rR da 2 rfl ?_
   refine Rg.cB ?_
   refine JJ da 6 rfl (by omega) ?_
   rw [show Dt.length - s.a - (nr + 1) = Dt.length - (s.a + 1 + nr) from by omega]
   exact j2 (yv + 1) ⟨s.a + 1 + nr, eh s.pz (nr + 1) s.cz 1, s.cz - (nr + 1), q15, nr, c15, (aa.gl (Dt.getD s.a 0) ((Dt.drop (s.a + 1)).take nr) s.A back), P2⟩ ⟨⟨by omega, by show s.a + 1 + nr = _; rw [Nat.add_mul, Nat.one_mul]; omega, hP2, hUl, .inr rfl, aa.tH .., (fun w0 h hh => by have := gS (c := U5) hz hdl (nr + 1) s.cz (by omega) hcz w0 h hh; rw [List.drop_drop] at this; rwa [show Dt.length - s.a - (nr + 1) = Dt.length - (s.a + 1 + nr) by omega, show s.a + (nr + 1) = s.a + 1 + nr by omega] at this), by show Dt.length - (s.a + 1 + nr) ≤ s.cz - (nr + 1); omega, aa.Gn hyh hk4 hr hres⟩, by omega⟩ (fZ (dp ln)) (sub (.cons j6 (.cons ed (.cons jA (.cons jA (ny .nil))))) aw)
 ·refine rC da 13 rfl ?_
  have hyE : yv = p.h.toNat := by omega
  exact ak (fy rfl rfl) (.inr ⟨s.a, s.P, s.pz, s.cz, aa.HE (by omega) hres, hPl, by rw [ha, hyE], hz, hcz, rfl, rfl⟩) (sub (.cons jA (.cons jA (.cons jA (ar (.cons ed .nil))))) oc)
end Go.Proofs.YtmaiakpjgomnpaaGreat
namespace Go.Proofs.YtmaiakpjgomnpaaGreat
open Go.Sl
theorem V.yz : aF Tryz.prog 17 = true := by kernel_rfl
theorem V.za : aF Tryz.prog 37 = true := by kernel_rfl
theorem V.CJ : aF Tryz.prog 38 = true := by kernel_rfl
theorem V.KC : aF Tryz.prog 39 = true := by kernel_rfl
theorem V.Jp : aF Tryz.prog 40 = true := by kernel_rfl
theorem V.N7 : aF Tryz.prog 41 = true := by kernel_rfl
theorem V.Qm : aF Tryz.prog 42 = true := by kernel_rfl
theorem V.Qt : aF Tryz.prog 81 = true := by kernel_rfl
theorem V.Qb : aF Tryz.prog 82 = true := by kernel_rfl
theorem V.Qv : aF Tryz.prog 83 = true := by kernel_rfl
theorem V.P6 : aF Tryz.prog 84 = true := by kernel_rfl
theorem V.Qr : aF Tryz.prog 85 = true := by kernel_rfl
theorem V.N0 : aF Tryz.prog 86 = true := by kernel_rfl
end Go.Proofs.YtmaiakpjgomnpaaGreat
namespace Go.Proofs.YtmaiakpjgomnpaaGreat
open Go.Sl 
theorem aW : dR Tryz.prog ⟨[22, 140], [(35, 4, 4), (88, 1, 1), (90, 0, 0), (90, 3, 7)]⟩ = true := by kernel_rfl
attribute [local irreducible] aj.av aa.bN aa.cU aa.deep aa.parts HW aa.bA aa.gq aa.gK aa.ft aa.lE aa.kS aa.gl aa.ff aa.gO aa.mf aa.want aa.bg aa.lF aa.nJ aa.nH aa.jV aL.nZ aa.bS aa.bd aa.bR aa.cu aa.dm aa.fO aa.ju aa.jC aa.dh aa.dN aa.cut aa.fE aa.xk
theorem Ia (h : aa.Hd) (bf : Nat) (pp : Option Addr) (pl : List Int) (cp : Nat) (pt : Option Addr) (tr : List Int) (ct : Nat) (pd : Option Addr) (nd cd : Nat) (pk : Option Addr) (ck : Nat) (R : ab) (hP : ∀ w0 h, R w0 h → aR U5 pp pl.length pl w0 h) (hT : ∀ w0 h, R w0 h → aR U5 pt tr.length tr w0 h) (hcp : pl.length ≤ cp) (hB : aj.av pl) (hBt : aj.av tr) (hpl : pl.length < 500000000) (htl : tr.length < 500000000) (Rk : ab) (hRk : ∀ w0 h_, Rk w0 h_ → aR (aP 3 .i64) pk (aa.bA h tr).length (aa.bA h tr) w0 h_) (hf : aa.gq ⟨h, pl, tr⟩) (hs : aa.bN h.w h.h = 0) (q : Option Addr) (n c : Nat) (hn : (n : Int) = 4 * h.w * h.h) (hcap : n ≤ c) (dv : List Int) (hpx0 : dv.length = n) (p : aa.Ps) (hp : aa.kS p h.w h.h) (Dt : List Int) (hDB : aj.av Dt) (hDl : Dt.length < 500000000) (nr : Nat) (hnr : (nr : Int) = aa.ff p.w (aa.parts h.ax * h.dep)) (back : Nat) (hback : (back : Int) = max 1 ((aa.parts h.ax * h.dep) / 8)) (at0 : Nat) (hat : at0 + p.h.toNat * (1 + nr) ≤ Dt.length) (pb : Option Addr) (cb : Nat) (Rb : ab) (hRb : ∀ w0 h, Rb w0 h → aR U5 pb (Dt.length - at0) (Dt.drop at0) w0 h) (hcb : Dt.length - at0 ≤ cb) (hr : aa.ft ⟨h, pl, tr⟩ Dt nr back p p.h.toNat 0 at0 [] dv = none) : aE Tryz.prog 86 [.pointer (some ⟨bf, 0, none⟩), .agg #[.int .i64 h.w, .int .i64 h.h, .slice q n c], .agg #[.int .i64 p.x, .int .i64 p.y, .int .i64 p.dx, .int .i64 p.dy, .int .i64 p.w, .int .i64 p.h], .slice pb (Dt.length - at0) cb] [ao bf 90 [.int .i64 h.w, .int .i64 h.h, .int .i64 h.dep, .int .i64 h.ax, .bool h.cm, .slice pp pl.length cp, .slice pt tr.length ct, .slice pd nd cd, .slice pk (aa.bA h tr).length ck], Row (aP 62 .u16) q n c dv, Rk, Rb, R] (aO fun v G => v = .tuple #[.slice none 0 0, .bool false] ∧ ∃ P, P.length = n ∧ G = [ao bf 90 [.int .i64 h.w, .int .i64 h.h, .int .i64 h.dep, .int .i64 h.ax, .bool h.cm, .slice pp pl.length cp, .slice pt tr.length ct, .slice pd nd cd, .slice pk (aa.bA h tr).length ck], Row (aP 62 .u16) q n c P, Rk, Rb, R]) := by
 refine (AT h bf pp pl cp pt tr ct pd nd cd pk ck R hP hT hcp hB hBt hpl htl Rk hRk hf hs q n c hn hcap dv hpx0 p hp Dt hDB hDl nr hnr back hback at0 hat pb cb Rb hRb hcb).mono ?_
 rintro e2 G ⟨v, rfl, (⟨_, rfl, P, h1, rfl⟩ | ⟨a, P, z, cz, h, _⟩)⟩
 ·exact ⟨_, rfl, rfl, P, h1, rfl⟩
 ·rw [hr] at h; cases h
theorem HY (h : aa.Hd) (bf : Nat) (pp : Option Addr) (pl : List Int) (cp : Nat) (pt : Option Addr) (tr : List Int) (ct : Nat) (pd : Option Addr) (nd cd : Nat) (pk : Option Addr) (ck : Nat) (R : ab) (hP : ∀ w0 h, R w0 h → aR U5 pp pl.length pl w0 h) (hT : ∀ w0 h, R w0 h → aR U5 pt tr.length tr w0 h) (hcp : pl.length ≤ cp) (hB : aj.av pl) (hBt : aj.av tr) (hpl : pl.length < 500000000) (htl : tr.length < 500000000) (Rk : ab) (hRk : ∀ w0 h_, Rk w0 h_ → aR (aP 3 .i64) pk (aa.bA h tr).length (aa.bA h tr) w0 h_) (hf : aa.gq ⟨h, pl, tr⟩) (hs : aa.bN h.w h.h = 0) (q : Option Addr) (n c : Nat) (hn : (n : Int) = 4 * h.w * h.h) (hcap : n ≤ c) (dv : List Int) (hpx0 : dv.length = n) (p : aa.Ps) (hp : aa.kS p h.w h.h) (Dt : List Int) (hDB : aj.av Dt) (hDl : Dt.length < 500000000) (nr : Nat) (hnr : (nr : Int) = aa.ff p.w (aa.parts h.ax * h.dep)) (back : Nat) (hback : (back : Int) = max 1 ((aa.parts h.ax * h.dep) / 8)) (at0 : Nat) (hat : at0 + p.h.toNat * (1 + nr) ≤ Dt.length) (pb : Option Addr) (cb : Nat) (Rb : ab) (hRb : ∀ w0 h, Rb w0 h → aR U5 pb (Dt.length - at0) (Dt.drop at0) w0 h) (hcb : Dt.length - at0 ≤ cb) (a2 : Nat) (P2 : List Int) (hr : aa.ft ⟨h, pl, tr⟩ Dt nr back p p.h.toNat 0 at0 [] dv = some (a2, P2)) : aE Tryz.prog 86 [.pointer (some ⟨bf, 0, none⟩), .agg #[.int .i64 h.w, .int .i64 h.h, .slice q n c], .agg #[.int .i64 p.x, .int .i64 p.y, .int .i64 p.dx, .int .i64 p.dy, .int .i64 p.w, .int .i64 p.h], .slice pb (Dt.length - at0) cb] [ao bf 90 [.int .i64 h.w, .int .i64 h.h, .int .i64 h.dep, .int .i64 h.ax, .bool h.cm, .slice pp pl.length cp, .slice pt tr.length ct, .slice pd nd cd, .slice pk (aa.bA h tr).length ck], Row (aP 62 .u16) q n c dv, Rk, Rb, R] (aO fun v G => ∃ pz cz, P2.length = n ∧ a2 = at0 + p.h.toNat * (1 + nr) ∧ (∀ w0 h, Rb w0 h → aR U5 pz (Dt.length - a2) (Dt.drop a2) w0 h) ∧ Dt.length - a2 ≤ cz ∧ v = .tuple #[.slice pz (Dt.length - a2) cz, .bool true] ∧ G = [ao bf 90 [.int .i64 h.w, .int .i64 h.h, .int .i64 h.dep, .int .i64 h.ax, .bool h.cm, .slice pp pl.length cp, .slice pt tr.length ct, .slice pd nd cd, .slice pk (aa.bA h tr).length ck], Row (aP 62 .u16) q n c P2, Rk, Rb, R]) := by
 refine (AT h bf pp pl cp pt tr ct pd nd cd pk ck R hP hT hcp hB hBt hpl htl Rk hRk hf hs q n c hn hcap dv hpx0 p hp Dt hDB hDl nr hnr back hback at0 hat pb cb Rb hRb hcb).mono ?_
 rintro e2 G ⟨v, rfl, (⟨h, _⟩ | ⟨a, P, z, cz, h, h1, h2, h3, h4, rfl, rfl⟩)⟩
 ·rw [hr] at h; cases h
 ·rw [hr] at h; cases h; exact ⟨_, rfl, z, cz, h1, h2, h3, h4, rfl, rfl⟩
theorem KX (w h : Int) (hs : aa.bN w h = 0) : aE Tryz.prog 85 [.int .i64 w, .int .i64 h] [] (aO fun v G => ∃ b : Nat, v = .tuple #[.agg #[.int .i64 w, .int .i64 h, .slice (some ⟨b, 0, none⟩) ((4 * w * h).toNat) ((4 * w * h).toNat)], .int .i64 0] ∧ G = [Row (aP 62 .u16) (some ⟨b, 0, none⟩) ((4 * w * h).toNat) ((4 * w * h).toNat) (List.replicate ((4 * w * h).toNat) 0)]) := by
 refine (MC w h).mono ?_
 rintro e2 G ⟨v, rfl, (⟨h1, _⟩ | ⟨_, b, rfl, rfl⟩)⟩
 ·exact absurd hs h1
 ·exact ⟨_, rfl, b, rfl, rfl⟩
set_option maxHeartbeats 8000000 in
theorem Ki (h : aa.Hd) (bf : Nat) (pp : Option Addr) (pl : List Int) (cp : Nat) (pt : Option Addr) (tr : List Int) (ct : Nat) (pd : Option Addr) (cd : Nat) (pk : Option Addr) (ck : Nat) (R : ab) (hP : ∀ w0 h, R w0 h → aR U5 pp pl.length pl w0 h) (hT : ∀ w0 h, R w0 h → aR U5 pt tr.length tr w0 h) (hcp : pl.length ≤ cp) (hB : aj.av pl) (hBt : aj.av tr) (hpl : pl.length < 500000000) (htl : tr.length < 500000000) (Rk : ab) (hRk : ∀ w0 h_, Rk w0 h_ → aR (aP 3 .i64) pk (aa.bA h tr).length (aa.bA h tr) w0 h_) (hf : aa.gq ⟨h, pl, tr⟩) (hs : aa.bN h.w h.h = 0) (Z : List Int) (hZB : aj.av Z) (hZl : Z.length < 500000000) (hcd : Z.length ≤ cd) (Rd : ab) (hRd : ∀ w0 h, Rd w0 h → aR U5 pd Z.length Z w0 h) (z : List Int × Int) (hz : aL.nZ Z (aa.want h) z) : aE Tryz.prog 42 [.pointer (some ⟨bf, 0, none⟩)] [ao bf 90 [.int .i64 h.w, .int .i64 h.h, .int .i64 h.dep, .int .i64 h.ax, .bool h.cm, .slice pp pl.length cp, .slice pt tr.length ct, .slice pd Z.length cd, .slice pk (aa.bA h tr).length ck], Rk, Rd, R] (aO fun v G => ∃ q n c, v = .tuple #[.agg #[.int .i64 (aa.mf ⟨h, pl, tr⟩ z).1.w, .int .i64 (aa.mf ⟨h, pl, tr⟩ z).1.h, .slice q n c], .int .i64 (aa.mf ⟨h, pl, tr⟩ z).2] ∧ (aa.mf ⟨h, pl, tr⟩ z).1.dv.length = n ∧ n ≤ c ∧ G = [Row (aP 62 .u16) q n c (aa.mf ⟨h, pl, tr⟩ z).1.dv]) := by
 refine au [(0, _)] Tryz.func42 rfl Tryz.ntmps42 rfl rfl ?_
 intro w0 F
 have hde : aa.deep h.ax h.dep := by unfold aa.gq at hf; exact hf.1
 have hpc := aa.ie hde
 have hdi := aa.jM (aa.iA hde)
 have hbits := aa.mh hde
 have hsd := aa.jY hs
 have hs4 := aa.qu hs
 have hps := aa.kM hs
 have hwi := aa.H3 hs hde
 have hzbl := aa.Lt hZB hwi.2 hz
 have hzB := hzbl.1
 have hzl := hzbl.2
 have hwn := aa.Co hs hde
 refine rT aW 2 rfl ?_
 refine cn V.kD rfl ?_
 intro b2
 refine rO aW 4 rfl ?_
 refine lx [pz 0 [] [0], pz 1 [0] [], pz 3 [1] [], pz 7 [2] [], pz 15 [3] [], pz 0 [] [0], pz 32 [5] [], pz 96 [6] [], pz 224 [7] [], pz 480 [8] [], pz 1023 [4, 9] [], pz 2047 [10] []] [⟨fun y => ao b2 26 [.int .i64 0, .int .i64 0, .slice none 0 0], none, none, []⟩, ⟨fun y => ao bf 90 [.int .i64 h.w, .int .i64 h.h, .int .i64 h.dep, .int .i64 h.ax, .bool h.cm, .slice pp pl.length cp, .slice pt tr.length ct, .slice pd Z.length cd, .slice pk (aa.bA h tr).length ck], none, none, [4, 9]⟩, ⟨fun y => Rk, none, none, []⟩, ⟨fun y => Rd, none, none, []⟩, ⟨fun y => R, none, none, []⟩, ⟨fun y => Row PK (gi (y 10)) (aa.whole h.w h.h).length (iI (y 10)) (aa.whole h.w h.h), some 10, none, []⟩] F V.mixed (by kernel_rfl) rfl (fun _ => .refl _) (bV _ (bV _ (bV _ (bV _ (bV _ (eA _ rfl (by intro y y2 h; simp only [h 10 (.inl rfl)]) ir)))))) ?_
 refine nM ?_
 refine nN ?_
 refine nG V.iD ?_
 refine nG V.An ?_
 refine nR (fun y FF hA => ae V.s3 rfl an rfl) ?_
 refine nM ?_
 refine nN ?_
 refine nG V.iD ?_
 refine nG V.sX ?_
 refine nR (fun y FF hA => ae V.s3 rfl an rfl) ?_
 refine gN (fun y v => .slice (gi v) (aa.whole h.w h.h).length (iI v)) (fun y v => True) _ _ (fun y v => [Row PK (gi v) (aa.whole h.w h.h).length (iI v) (aa.whole h.w h.h)]) _ (fun y => rfl) (fun y => rfl) (fun y => rfl) (fun y => rfl) (fun y FF hA => uN (Gf h.w h.h hs) V.Qt rfl .nil) (by intros; rfl) (by intros; rfl) (by intros; rfl) (by intro y y2 h; simp only [h 10 (.inl rfl)]) (by intro y y2 h; rfl) ?_
 refine bQ _ (fun y => rfl) rfl rfl rfl (fun y hA L => du (dY rfl) ⟨rfl, rfl⟩) (by intros; rfl) (by intro y y2 h; simp only [h 10 (.inr (by decide))]) ?_
 refine aU ?_
 intro y hA
 clear hA
 refine ba ?_
 refine bZ [(0, .pointer (some ⟨bf, 0, none⟩)), (2, .pointer (some ⟨b2, 0, none⟩)), (4, .slice (gi (y 10)) (aa.whole h.w h.h).length (iI (y 10)))] (.cons (d := 0) rfl (.cons (d := 2) rfl (.cons (d := 4) rfl (.nil _)))) ?_
 refine bP (M := ao b2 26 [.int .i64 0, .int .i64 0, .slice none 0 0] :: ao bf 90 [.int .i64 h.w, .int .i64 h.h, .int .i64 h.dep, .int .i64 h.ax, .bool h.cm, .slice pp pl.length cp, .slice pt tr.length ct, .slice pd Z.length cd, .slice pk (aa.bA h tr).length ck] :: Rk :: Rd :: R :: Row PK (gi (y 10)) (aa.whole h.w h.h).length (iI (y 10)) (aa.whole h.w h.h) :: F) (fun _ _ h => h) ?_
 generalize (gi (y 10)) = pw
 generalize (iI (y 10)) = cw
 refine ym (fun (pa : Option Addr) (ca : Nat) => [(0, .pointer (some ⟨bf, 0, none⟩)), (2, .pointer (some ⟨b2, 0, none⟩)), (4, .slice pa (aa.bg h).length ca)]) (fun (pa : Option Addr) (ca : Nat) => Row PK pa (aa.bg h).length ca (aa.bg h) :: ao b2 26 [.int .i64 0, .int .i64 0, .slice none 0 0] :: ao bf 90 [.int .i64 h.w, .int .i64 h.h, .int .i64 h.dep, .int .i64 h.ax, .bool h.cm, .slice pp pl.length cp, .slice pt tr.length ct, .slice pd Z.length cd, .slice pk (aa.bA h tr).length ck] :: Rk :: Rd :: R :: F) (fun (pa : Option Addr) (ca : Nat) => True) ?_ ?_
 ·rcases (aa.tf h.cm) with hl1 | hl2
  ·refine rL aW 6 rfl ?_
   refine oV (cH (v := .bool true) (ae V.s4 rfl bW rfl) (congrArg Value.bool hl1)) ?_
   refine rO aW 3 rfl ?_
   refine lx [pz 0 [] [0], pz 1 [0] [], pz 3 [1] [], pz 7 [2] [], pz 15 [3] [], pz 0 [] [0], pz 32 [5] [], pz 96 [6] [], pz 224 [7] [], pz 480 [8] [], pz 1023 [4, 9] [], pz 2047 [10] []] [⟨fun y => ao b2 26 [.int .i64 0, .int .i64 0, .slice none 0 0], none, none, []⟩, ⟨fun y => ao bf 90 [.int .i64 h.w, .int .i64 h.h, .int .i64 h.dep, .int .i64 h.ax, .bool h.cm, .slice pp pl.length cp, .slice pt tr.length ct, .slice pd Z.length cd, .slice pk (aa.bA h tr).length ck], none, none, [4, 9]⟩, ⟨fun y => Rk, none, none, []⟩, ⟨fun y => Rd, none, none, []⟩, ⟨fun y => R, none, none, []⟩, ⟨fun y => Row PK pw (aa.whole h.w h.h).length cw (aa.whole h.w h.h), none, none, []⟩, ⟨fun y => Row PK (gi (y 10)) (aa.gj h.w h.h).length (iI (y 10)) (aa.gj h.w h.h), some 10, none, []⟩] F V.mixed (by kernel_rfl) rfl (fun _ => .refl _) (bV _ (bV _ (bV _ (bV _ (bV _ (bV _ (eA _ rfl (by intro y y2 h; simp only [h 10 (.inl rfl)]) ir))))))) ?_
   refine nM ?_
   refine nN ?_
   refine nG V.iD ?_
   refine nG V.An ?_
   refine nR (fun y FF hA => ae V.s3 rfl an rfl) ?_
   refine nM ?_
   refine nN ?_
   refine nG V.iD ?_
   refine nG V.sX ?_
   refine nR (fun y FF hA => ae V.s3 rfl an rfl) ?_
   refine gN (fun y v => .slice (gi v) (aa.gj h.w h.h).length (iI v)) (fun y v => True) _ _ (fun y v => [Row PK (gi v) (aa.gj h.w h.h).length (iI v) (aa.gj h.w h.h)]) _ (fun y => rfl) (fun y => rfl) (fun y => rfl) (fun y => rfl) (fun y FF hA => uN (EM h.w h.h hs) V.Qb rfl .nil) (by intros; rfl) (by intros; rfl) (by intros; rfl) (by intro y y2 h; simp only [h 10 (.inl rfl)]) (by intro y y2 h; rfl) ?_
   refine bQ _ (fun y => rfl) rfl rfl rfl (fun y hA L => du (dY rfl) ⟨rfl, rfl⟩) (by intros; rfl) (by intro y y2 h; simp only [h 10 (.inr (by decide))]) ?_
   refine aU ?_
   intro y hA
   clear hA
   show ji _ _ _ _ (ao b2 26 [.int .i64 0, .int .i64 0, .slice none 0 0] :: ao bf 90 [.int .i64 h.w, .int .i64 h.h, .int .i64 h.dep, .int .i64 h.ax, .bool h.cm, .slice pp pl.length cp, .slice pt tr.length ct, .slice pd Z.length cd, .slice pk (aa.bA h tr).length ck] :: Rk :: Rd :: R :: Row PK pw (aa.whole h.w h.h).length cw (aa.whole h.w h.h) :: Row PK (gi (y 10)) (aa.gj h.w h.h).length (iI (y 10)) (aa.gj h.w h.h) :: F)
   (rw [show (aa.gj h.w h.h) = (aa.bg h) from aa.zW hl1]; exact j2 _ _ trivial (jg ln) (sub (.cons n4 (pc .nil)) cC))
  ·refine rL aW 6 rfl ?_
   refine oV (cH (v := .bool false) (ae V.s4 rfl bW rfl) (congrArg Value.bool hl2)) ?_
   refine rO aW 4 rfl ?_
   (rw [show (aa.whole h.w h.h) = (aa.bg h) from aa.z8 hl2]; exact j2 _ _ trivial (jg ln) (sub (.cons j6 (pc .nil)) aw))
 ·intro pa ca
  rintro -
  refine rC aW 1 rfl ?_
  refine wN [pz 0 [] [4], pz 0 [] [0], pz 2 [1] [], pz 6 [2] [], pz 14 [3] [], pz 30 [4] [], pz 62 [5] [], pz 0 [] [0], pz 128 [7] [], pz 384 [8] [], pz 896 [9] [], pz 1920 [10] [], pz 4094 [6, 11] [], pz 8191 [0, 12] [], pz 16383 [13] []] [⟨fun y => Row PK pa (aa.bg h).length ca (aa.bg h), none, none, [13]⟩, ⟨fun y => ao b2 26 [.int .i64 0, .int .i64 0, .slice none 0 0], none, none, []⟩, ⟨fun y => ao bf 90 [.int .i64 h.w, .int .i64 h.h, .int .i64 h.dep, .int .i64 h.ax, .bool h.cm, .slice pp pl.length cp, .slice pt tr.length ct, .slice pd Z.length cd, .slice pk (aa.bA h tr).length ck], none, none, [5, 11]⟩, ⟨fun y => Rk, none, none, []⟩, ⟨fun y => Rd, none, none, []⟩, ⟨fun y => R, none, none, []⟩] F V.mixed ?_
  iterate 2 refine nM ?_
  refine nN ?_
  refine nG V.iD ?_
  refine nG V.qQ ?_
  refine nR (fun y FF hA => ae V.s3 rfl an rfl) ?_
  refine nE (fun y FF hA => bK (Post := []) (iM h.ax) V.pf rfl .nil (fun v G h => by rcases h with ⟨rfl, rfl⟩; exact ⟨rfl, .refl _⟩)) ?_
  refine nM ?_
  refine nN ?_
  refine nG V.iD ?_
  refine nG V.lU ?_
  refine nR (fun y FF hA => ae V.s3 rfl an rfl) ?_
  refine nV (fun y hA L => jF (r := (aa.parts h.ax * h.dep)) rfl rfl wI) ?_
  refine nE (fun y FF hA => bK (Post := [Row PK pa (aa.bg h).length ca (aa.bg h)]) (Hz pa ca (aa.bg h) (aa.parts h.ax * h.dep) (Row PK pa (aa.bg h).length ca (aa.bg h)) (fun _ _ hh => hh.rd) hps.2 (fun p hp => (hps.1 p hp).2.1) ⟨by omega, by omega⟩) V.Qv rfl (ar .nil) (fun v G hh => by rcases hh with ⟨rfl, rfl⟩; exact ⟨congrArg (Value.int .i64) (aa.Hg h), .refl _⟩)) ?_
  refine nA ?_
  refine aU ?_
  intro y hA
  clear hA
  refine ba ?_
  refine bZ [(0, .pointer (some ⟨bf, 0, none⟩)), (2, .pointer (some ⟨b2, 0, none⟩)), (4, .slice pa (aa.bg h).length ca), (5, .int .i64 (aa.want h))] (.cons (d := 0) rfl (.cons (d := 2) rfl (.cons (d := 4) rfl (.cons (d := 5) rfl (.nil _))))) ?_
  refine bP (M := Row PK pa (aa.bg h).length ca (aa.bg h) :: ao b2 26 [.int .i64 0, .int .i64 0, .slice none 0 0] :: ao bf 90 [.int .i64 h.w, .int .i64 h.h, .int .i64 h.dep, .int .i64 h.ax, .bool h.cm, .slice pp pl.length cp, .slice pt tr.length ct, .slice pd Z.length cd, .slice pk (aa.bA h tr).length ck] :: Rk :: Rd :: R :: F) (fun _ _ h => h) ?_
  refine rC aW 5 rfl ?_
  refine oV (ae V.ez rfl dH rfl) ?_
  refine oV (aJ rfl) ?_
  refine ai (Kl pd cd Z Rd hRd hcd hZl hZB (aa.want h) hwi.2 z hz) V.P6  rfl (.cons jA .nil) rfl ?_
  rintro _ _ ⟨qz, cqz, rfl, rfl⟩
  refine rO aW 9 rfl ?_
  rcases (aa.OK ⟨h, pl, tr⟩ z) with ⟨h1, hw_⟩ | ⟨h1, h2, hw_⟩ | ⟨h1, h2⟩
  ·refine rC aW 3 rfl ?_
   refine oV (aY (bY rfl rfl) h1) ?_
   refine rO aW 6 rfl ?_
   refine oV (cD V.mq V.kD rfl (cs := [_, _, _]) rfl) ?_
   refine oV (aJ rfl) ?_
   refine aT (aH V.ei rfl rfl (us := [_, _, _]) rfl rfl (by exact yS) (by exact Nat.le_of_ble_eq_true rfl) rfl) ?_
   refine rO aW 6 rfl ?_
   rw [hw_]
   exact ak (eZ V.ei rfl eI rfl rfl) ⟨none, 0, 0, rfl, rfl, Nat.le_refl _, rfl⟩ ((ee (A := Row (aP 62 .u16) none 0 0 []) (fun w0 => Row.nil _ _ _)).trans (sub (ar .nil) E4))
  ·refine rC aW 3 rfl ?_
   refine oV (aA (bY rfl rfl) h1) ?_
   refine rO aW 9 rfl ?_
   refine oV (aY (bo rfl rfl) h2) ?_
   refine rO aW 6 rfl ?_
   refine oV (cD V.mq V.kD rfl (cs := [_, _, _]) rfl) ?_
   refine aT (aH V.ei rfl rfl (us := [_, _, _]) rfl rfl (by exact yS) (by exact Nat.le_of_ble_eq_true rfl) rfl) ?_
   refine rO aW 6 rfl ?_
   rw [hw_]
   exact ak (eZ V.ei rfl eI rfl rfl) ⟨none, 0, 0, rfl, rfl, Nat.le_refl _, rfl⟩ ((ee (A := Row (aP 62 .u16) none 0 0 []) (fun w0 => Row.nil _ _ _)).trans (sub (ar .nil) E4))
  ·refine rC aW 3 rfl ?_
   refine oV (aA (bY rfl rfl) h1) ?_
   refine rO aW 9 rfl ?_
   refine oV (aA (bo rfl rfl) h2) ?_
   refine rO aW 8 rfl ?_
   refine iV (fun w hi => gu hi (show Row U5 qz z.1.length cqz z.1 ∈ _ by exact an)) (fun hcz0 => ?_)
   refine lx [pz 0 [] [0], pz 1 [0] [], pz 3 [1] [], pz 7 [2] [], pz 15 [3] [], pz 0 [] [0], pz 32 [5] [], pz 96 [6] [], pz 224 [7] [], pz 480 [8] [], pz 1023 [4, 9] [], pz 2047 [10] [], pz 4095 [11] [], pz 4095 [11] [], pz 0 [] [], pz 24575 [14, 12] [], pz 65535 [13] []] [⟨fun y => Row U5 qz z.1.length cqz z.1, none, none, []⟩, ⟨fun y => Rd, none, none, []⟩, ⟨fun y => Row PK pa (aa.bg h).length ca (aa.bg h), none, none, []⟩, ⟨fun y => ao b2 26 [.int .i64 0, .int .i64 0, .slice none 0 0], none, none, []⟩, ⟨fun y => ao bf 90 [.int .i64 h.w, .int .i64 h.h, .int .i64 h.dep, .int .i64 h.ax, .bool h.cm, .slice pp pl.length cp, .slice pt tr.length ct, .slice pd Z.length cd, .slice pk (aa.bA h tr).length ck], none, none, [4, 9]⟩, ⟨fun y => Rk, none, none, []⟩, ⟨fun y => R, none, none, []⟩, ⟨fun y => Row (aP 62 .u16) (some ⟨uB (y 10), 0, none⟩) ((4 * h.w * h.h).toNat) ((4 * h.w * h.h).toNat) (List.replicate ((4 * h.w * h.h).toNat) 0), some 10, none, []⟩, ⟨fun y => ao (gx (y 14)) 26 [.int .i64 0, .int .i64 0, .slice none 0 0], some 14, some 15, []⟩, ⟨fun y => ao (gx (y 14)) 26 [.int .i64 h.w, .int .i64 h.h, .slice (some ⟨uB (y 10), 0, none⟩) ((4 * h.w * h.h).toNat) ((4 * h.w * h.h).toNat)], some 15, none, []⟩] F V.mixed (by kernel_rfl) rfl (fun _ => .refl _) (bV _ (bV _ (bV _ (bV _ (bV _ (bV _ (bV _ (eA _ rfl (by intro y y2 h; simp only [h 10 (.inl rfl)]) (eA _ rfl (by intro y y2 h; simp only [h 14 (.inl rfl)]) (eA _ rfl (by intro y y2 h; simp only [h 10 (.inr (by decide)), h 14 (.inr (by decide))]) ir)))))))))) ?_
   refine nM ?_
   refine nN ?_
   refine nG V.iD ?_
   refine nG V.An ?_
   refine nR (fun y FF hA => ae V.s3 rfl an rfl) ?_
   refine nM ?_
   refine nN ?_
   refine nG V.iD ?_
   refine nG V.sX ?_
   refine nR (fun y FF hA => ae V.s3 rfl an rfl) ?_
   refine gN (fun y v => .tuple #[.agg #[.int .i64 h.w, .int .i64 h.h, .slice (some ⟨uB v, 0, none⟩) ((4 * h.w * h.h).toNat) ((4 * h.w * h.h).toNat)], .int .i64 0]) (fun y v => True) _ _ (fun y v => [Row (aP 62 .u16) (some ⟨uB v, 0, none⟩) ((4 * h.w * h.h).toNat) ((4 * h.w * h.h).toNat) (List.replicate ((4 * h.w * h.h).toNat) 0)]) _ (fun y => rfl) (fun y => rfl) (fun y => rfl) (fun y => rfl) (fun y FF hA => rI (α := Nat) (fun b => .tuple #[.agg #[.int .i64 h.w, .int .i64 h.h, .slice (some ⟨b, 0, none⟩) ((4 * h.w * h.h).toNat) ((4 * h.w * h.h).toNat)], .int .i64 0]) uB (fun b => [Row (aP 62 .u16) (some ⟨b, 0, none⟩) ((4 * h.w * h.h).toNat) ((4 * h.w * h.h).toNat) (List.replicate ((4 * h.w * h.h).toNat) 0)]) (KX h.w h.h hs) (fun a => rfl) V.Qr rfl .nil) (by intros; rfl) (by intros; rfl) (by intros; rfl) (by intro y y2 h; simp only [h 10 (.inl rfl)]) (by intro y y2 h; rfl) ?_
   refine bQ _ (fun y => rfl) rfl rfl rfl (fun y hA L => du (aJ rfl) ⟨rfl, rfl⟩) (by intros; rfl) (by intro y y2 h; simp only [h 10 (.inr (by decide))]) ?_
   refine bQ _ (fun y => rfl) rfl rfl rfl (fun y hA L => du (eW rfl rfl) ⟨rfl, rfl⟩) (by intros; rfl) (by intro y y2 h; simp only [h 10 (.inr (by decide))]) ?_
   refine nV (fun y hA L => eW rfl rfl) ?_
   refine gN (fun y v => .pointer (some ⟨gx v, 0, none⟩)) (fun y v => True) _ _ (fun y v => [ao (gx v) 26 [.int .i64 0, .int .i64 0, .slice none 0 0]]) _ (fun y => rfl) (fun y => rfl) (fun y => rfl) (fun y => rfl) (fun y FF hA => uA (uj V.kD)) (by intros; rfl) (by intros; rfl) (by intros; rfl) (by intro y y2 h; simp only [h 14 (.inl rfl)]) (by intro y y2 h; rfl) ?_
   refine nE (fun y FF hA => du (aH V.ei rfl rfl (us := [_, _, _]) rfl rfl (by exact cZ) (by exact Nat.le_of_ble_eq_true rfl) rfl) ⟨rfl, .refl _⟩) ?_
   refine nA ?_
   refine aU ?_
   intro y hA
   clear hA
   refine ba ?_
   refine bZ [(0, .pointer (some ⟨bf, 0, none⟩)), (2, .pointer (some ⟨b2, 0, none⟩)), (4, .slice pa (aa.bg h).length ca), (6, .slice qz z.1.length cqz), (8, .pointer (some ⟨(gx (y 14)), 0, none⟩))] (.cons (d := 0) rfl (.cons (d := 2) rfl (.cons (d := 4) rfl (.cons (d := 6) rfl (.cons (d := 8) rfl (.nil _)))))) ?_
   refine bP (M := Row U5 qz z.1.length cqz z.1 :: Rd :: Row PK pa (aa.bg h).length ca (aa.bg h) :: ao b2 26 [.int .i64 0, .int .i64 0, .slice none 0 0] :: ao bf 90 [.int .i64 h.w, .int .i64 h.h, .int .i64 h.dep, .int .i64 h.ax, .bool h.cm, .slice pp pl.length cp, .slice pt tr.length ct, .slice pd Z.length cd, .slice pk (aa.bA h tr).length ck] :: Rk :: R :: Row (aP 62 .u16) (some ⟨uB (y 10), 0, none⟩) ((4 * h.w * h.h).toNat) ((4 * h.w * h.h).toNat) (List.replicate ((4 * h.w * h.h).toNat) 0) :: ao (gx (y 14)) 26 [.int .i64 h.w, .int .i64 h.h, .slice (some ⟨uB (y 10), 0, none⟩) ((4 * h.w * h.h).toNat) ((4 * h.w * h.h).toNat)] :: F) (fun _ _ h => h) ?_
   generalize (uB (y 10)) = bq
   generalize (gx (y 14)) = b8
   refine rC aW 14 rfl ?_
   rw [show List.replicate ((4 * h.w * h.h).toNat) 0 = aa.mr h from by unfold aa.mr; rfl]
   obtain ⟨RES, hRES⟩ : ∃ r, r = aa.gO ⟨h, pl, tr⟩ z.1 (aa.bg h) 0 (aa.mr h) := ⟨_, rfl⟩
   have h2w : ¬ (z.1.length : Int) < aa.want h := h2
   refine zj (fun (i : Nat) (a : Nat) (pz : Option Addr) (cz : Nat) (P : List Int) => [(0, .pointer (some ⟨bf, 0, none⟩)), (2, .pointer (some ⟨b2, 0, none⟩)), (6, .slice pz (z.1.length - a) cz), (8, .pointer (some ⟨b8, 0, none⟩)), (88, .slice pa (aa.bg h).length ca), (89, .int .i64 ((aa.bg h).length : Int)), (90, .int .i64 (i : Int))]) (fun (i : Nat) (a : Nat) (pz : Option Addr) (cz : Nat) (P : List Int) => ao b8 26 [.int .i64 h.w, .int .i64 h.h, .slice (some ⟨bq, 0, none⟩) ((4 * h.w * h.h).toNat) ((4 * h.w * h.h).toNat)] :: Row (aP 62 .u16) (some ⟨bq, 0, none⟩) ((4 * h.w * h.h).toNat) ((4 * h.w * h.h).toNat) P :: Row PK pa (aa.bg h).length ca (aa.bg h) :: Row U5 qz z.1.length cqz z.1 :: ao b2 26 [.int .i64 0, .int .i64 0, .slice none 0 0] :: ao bf 90 [.int .i64 h.w, .int .i64 h.h, .int .i64 h.dep, .int .i64 h.ax, .bool h.cm, .slice pp pl.length cp, .slice pt tr.length ct, .slice pd Z.length cd, .slice pk (aa.bA h tr).length ck] :: Rk :: Rd :: R :: F) (fun (i : Nat) (a : Nat) (pz : Option Addr) (cz : Nat) (P : List Int) => i ≤ (aa.bg h).length ∧ P.length = ((4 * h.w * h.h).toNat) ∧ a + aa.nH (aa.bitsOf h) ((aa.bg h).drop i) ≤ z.1.length ∧ (∀ w0 h, (Row U5 qz z.1.length cqz z.1) w0 h → aR U5 pz (z.1.length - a) (z.1.drop a) w0 h) ∧ z.1.length - a ≤ cz ∧ aa.gO ⟨h, pl, tr⟩ z.1 ((aa.bg h).drop i) a P = RES) (fun (i : Nat) (a : Nat) (pz : Option Addr) (cz : Nat) (P : List Int) => (aa.bg h).length - i) (i5 (0) (0) (qz) (cqz) (aa.mr h) ?_ (ku (dp ln)) (sub (.cons Jg (.cons JT (.cons bX (ar (.cons az (.cons az (.cons az (.cons dS (.cons dS .nil))))))))) aw)) ?_
   ·exact ⟨Nat.zero_le _, List.length_replicate, by rw [List.drop_zero]; show 0 + _ ≤ _; omega, (fun _ _ hh => hh.rd), hcz0, hRES.symm⟩
   intro i a pz cz P
   rintro ⟨hi, hPl, hat, hzr, hzc, hres⟩
   refine rL aW 6 rfl ?_
   refine aN rfl (fun h91 => ?_) (fun h91 => ?_)
   ·refine rC aW 5 rfl ?_
    obtain ⟨x, hx⟩ : ∃ x, x = (PK.g (aa.bg h) (i : Int)) := ⟨_, rfl⟩
    have hx2 : x = (aa.bg h).getD i ⟨0, 0, 0, 0, 0, 0⟩ := hx
    have hxi := hps.1 x (hx2 ▸ aa.C4 (by omega))
    have hne := aa.Je (bits := aa.bitsOf h) (by omega) hx2
    refine a7 ?_
    refine oV (xI V.sA (own dH)) ?_
    refine oV (cH (v := .agg #[.int .i64 x.x, .int .i64 x.y, .int .i64 x.dx, .int .i64 x.dy, .int .i64 x.w, .int .i64 x.h]) (n8 (c := PK) V.a145 rfl (own dH) (by omega) (by omega) rfl) (by rw [hx])) ?_
    refine cn V.z145 rfl ?_
    intro b12
    refine aT (aH V.a145 rfl rfl (us := [_, _, _, _, _, _]) rfl rfl (by exact cZ) (by exact Nat.le_of_ble_eq_true rfl) rfl) ?_
    refine rO aW 2 rfl ?_
    rcases (aa.OY (aa.ft ⟨h, pl, tr⟩ z.1 (aa.lF h x) (aa.nJ h) x x.h.toNat 0 a [] P)) with hr | ⟨a2, P2, hr⟩
    ·refine rC aW 3 rfl ?_
     refine oV (bJ V.ei rfl bW (vs := [_, _, _]) rfl rfl) ?_
     refine oV (bJ V.a145 rfl an (vs := [_, _, _, _, _, _]) rfl rfl) ?_
     refine oV (aJ rfl) ?_
     refine ai (Ia h bf pp pl cp pt tr ct pd Z.length cd pk ck R hP hT hcp hB hBt hpl htl Rk hRk hf hs (some ⟨bq, 0, none⟩) ((4 * h.w * h.h).toNat) ((4 * h.w * h.h).toNat) (by omega) (Nat.le_refl _) P hPl x hxi.1 z.1 hzB hzl (aa.lF h x) (aa.yH hxi.2.1 hde) (aa.nJ h) (aa.yq h) a (by rw [hne] at hat; unfold aa.lF; omega) pz cz (Row U5 qz z.1.length cqz z.1) hzr hzc hr) V.N0  rfl (.cons n4 (.cons bX (.cons j6 (.cons ed (.cons j6 .nil))))) rfl ?_
     rintro _ _ ⟨rfl, P2, hP2, rfl⟩
     refine rO aW 16 rfl ?_
     refine oV (cD V.mq V.kD rfl (cs := [_, _, _]) rfl) ?_
     refine aT (aH V.ei rfl rfl (us := [_, _, _]) rfl rfl (by exact NY) (by exact Nat.le_of_ble_eq_true rfl) rfl) ?_
     refine rO aW 9 rfl ?_
     rw [aa.F3 (f := ⟨h, pl, tr⟩) h1 h2 (hRES.symm.trans (aa.IT (f := ⟨h, pl, tr⟩) (by omega) hx2 hr hres))]
     exact ak (eZ V.ei rfl NS rfl rfl) ⟨none, 0, 0, rfl, rfl, Nat.le_refl _, rfl⟩ ((ee (A := Row (aP 62 .u16) none 0 0 []) (fun w0 => Row.nil _ _ _)).trans (sub (ar .nil) LU))
    ·refine rC aW 3 rfl ?_
     refine oV (bJ V.ei rfl bW (vs := [_, _, _]) rfl rfl) ?_
     refine oV (bJ V.a145 rfl an (vs := [_, _, _, _, _, _]) rfl rfl) ?_
     refine oV (aJ rfl) ?_
     refine ai (HY h bf pp pl cp pt tr ct pd Z.length cd pk ck R hP hT hcp hB hBt hpl htl Rk hRk hf hs (some ⟨bq, 0, none⟩) ((4 * h.w * h.h).toNat) ((4 * h.w * h.h).toNat) (by omega) (Nat.le_refl _) P hPl x hxi.1 z.1 hzB hzl (aa.lF h x) (aa.yH hxi.2.1 hde) (aa.nJ h) (aa.yq h) a (by rw [hne] at hat; unfold aa.lF; omega) pz cz (Row U5 qz z.1.length cqz z.1) hzr hzc a2 P2 hr) V.N0  rfl (.cons n4 (.cons bX (.cons j6 (.cons ed (.cons j6 .nil))))) rfl ?_
     rintro _ _ ⟨pz2, cz2, hP2, ha2, hz2, hcz2, rfl, rfl⟩
     refine cS aW 21 rfl (by omega) ?_
     exact j5 (i + 1) a2 pz2 cz2 P2 ⟨⟨by omega, hP2, by rw [ha2]; rw [hne] at hat; unfold aa.lF; omega, hz2, hcz2, aa.KZ (f := ⟨h, pl, tr⟩) (by omega) hx2 hr hres⟩, by omega⟩ (ku (dp ln)) (sub (.cons n4 (.cons az (.cons j6 (.cons bX (.cons jA (bD (.cons bX (.cons dS .nil)))))))) cC)
   ·refine rC aW 7 rfl ?_
    refine oV (bJ V.ei rfl an (vs := [_, _, _]) rfl rfl) ?_
    refine aT (aH V.ei rfl rfl (us := [_, _, _]) rfl rfl (by exact FM) (by exact Nat.le_of_ble_eq_true rfl) rfl) ?_
    refine rO aW 4 rfl ?_
    rw [aa.FV (f := ⟨h, pl, tr⟩) h1 h2 (hRES.symm.trans (aa.Kd (by omega) hres))]
    exact ak (eZ V.ei rfl jz rfl rfl) ⟨_, _, _, rfl, hPl, Nat.le_refl _, rfl⟩ (sub (.cons az .nil) It)
theorem Md (p : Option Addr) (c : Nat) (B : List Int) (R : ab) (hR : ∀ w0 h, R w0 h → aR U5 p B.length B w0 h) (hl : B.length < 500000000) (hB : aj.av B) (hcap : B.length ≤ c) (e : Int) (hc : aa.cut B = .error e) : aE Tryz.prog 37 [.slice p B.length c] [R] (aO fun v G => v = .tuple #[.slice none 0 0, .int .i64 e] ∧ G = [R]) := by
 refine (Fo p c B R hR hl hB hcap).mono ?_
 rintro e2 G ⟨v, rfl, (⟨e', h, rfl, rfl⟩ | ⟨q, cq, es, h, _⟩)⟩
 ·rw [hc] at h; cases h; exact ⟨_, rfl, rfl, rfl⟩
 ·rw [hc] at h; cases h
theorem py (p : Option Addr) (c : Nat) (B : List Int) (R : ab) (hR : ∀ w0 h, R w0 h → aR U5 p B.length B w0 h) (hl : B.length < 500000000) (hB : aj.av B) (hcap : B.length ≤ c) (l : List aa.Ch) (hc : aa.cut B = .ok l) : aE Tryz.prog 37 [.slice p B.length c] [R] (aO fun v G => ∃ q cq, ∃ es : List Ce, l = es.map Ce.ch ∧ es.length ≤ 262144 ∧ (∀ y ∈ es, yD y) ∧ v = .tuple #[.slice q es.length cq, .int .i64 0] ∧ G = [Row CK q es.length cq es, DK es, R]) := by
 refine (Fo p c B R hR hl hB hcap).mono ?_
 rintro e2 G ⟨v, rfl, (⟨e', h, _⟩ | ⟨q, cq, es, h, h1, h2, rfl, rfl⟩)⟩
 ·rw [hc] at h; cases h
 ·rw [hc] at h; cases h; exact ⟨_, rfl, q, cq, es, rfl, h1, h2, rfl, rfl⟩
theorem l5 {B : List Int} {es : List Ce} (hB : aj.av B) (hc : aa.cut B = .ok (es.map Ce.ch)) : F9 es := fun x hx => aa.MT hB hc x.ch (List.mem_map_of_mem hx)
theorem ql (es : List Ce) : aa.fE (es.map Ce.ch) = (CK.g es 0).d := by
 unfold aa.fE
 cases es <;> rfl
theorem qa {es : List Ce} (h : 0 < es.length) : CK.g es 0 ∈ es := by
 match es, h with
 | x :: es, _ => exact List.mem_cons_self ..
theorem tW {es : List Ce} {s : qp} (hs : mA es es.length s) (ho : aa.dN (es.map Ce.ch) = true) : s.P = aa.cE (es.map Ce.ch) aa.bd ∧ s.T = aa.cE (es.map Ce.ch) aa.bR ∧ s.D = aa.dh (es.map Ce.ch) ∧ s.hp = aa.fD (es.map Ce.ch) aa.bd ∧ s.ht = aa.fD (es.map Ce.ch) aa.bR := by
 obtain ⟨h1, h2, h3, h4, h5, _⟩ := hs
 have e : (es.map Ce.ch).take es.length = es.map Ce.ch := List.take_of_length_le (by rw [List.length_map]; exact Nat.le_refl _)
 rw [e] at h1 h2 h3 h4 h5
 have hl := aa.Ep ho
 exact ⟨h1.trans hl.1, h2.trans hl.2, h3, h4, h5⟩
theorem uv (h : aa.Hd) (hd : aa.jv h.dep) (bf : Nat) (pp : Option Addr) (pl : List Int) (cp : Nat) (pt : Option Addr) (tr : List Int) (ct : Nat) (pd : Option Addr) (nd cd : Nat) (pk : Option Addr) (nk ck : Nat) (hl : pl.length < 500000000) (has : Bool) (t : Bool) (ht : t = decide (aa.ju h pl has)) : aE Tryz.prog 40 [.pointer (some ⟨bf, 0, none⟩), .bool has] [ao bf 90 [.int .i64 h.w, .int .i64 h.h, .int .i64 h.dep, .int .i64 h.ax, .bool h.cm, .slice pp pl.length cp, .slice pt tr.length ct, .slice pd nd cd, .slice pk nk ck]] (aO fun v G => v = .bool t ∧ G = [ao bf 90 [.int .i64 h.w, .int .i64 h.h, .int .i64 h.dep, .int .i64 h.ax, .bool h.cm, .slice pp pl.length cp, .slice pt tr.length ct, .slice pd nd cd, .slice pk nk ck]]) := by
 cases has with
 | true => exact BR h hd bf pp pl cp pt tr ct pd nd cd pk nk ck hl t ht
 | false => exact BF h hd bf pp pl cp pt tr ct pd nd cd pk nk ck hl t ht
theorem wj (h : aa.Hd) (hd : aa.jv h.dep) (bf : Nat) (pp : Option Addr) (pl : List Int) (cp : Nat) (pt : Option Addr) (tr : List Int) (ct : Nat) (pd : Option Addr) (nd cd : Nat) (hpl : pl.length < 500000000) (htl : tr.length < 500000000) (hB : aj.av tr) (R : ab) (hR : ∀ w0 h, R w0 h → aR U5 pt tr.length tr w0 h) (is : Bool) (hi : is = false → tr = []) (t : Bool) (ht : t = decide (aa.jC h pl tr is)) : aE Tryz.prog 41 [.pointer (some ⟨bf, 0, none⟩), .bool is] [ao bf 90 [.int .i64 h.w, .int .i64 h.h, .int .i64 h.dep, .int .i64 h.ax, .bool h.cm, .slice pp pl.length cp, .slice pt tr.length ct, .slice pd nd cd, .slice none 0 0], R] (aO fun v G => ∃ pk nk ck K, (t = true → K = aa.bA h tr) ∧ K.length = nk ∧ v = .bool t ∧ G = [ao bf 90 [.int .i64 h.w, .int .i64 h.h, .int .i64 h.dep, .int .i64 h.ax, .bool h.cm, .slice pp pl.length cp, .slice pt tr.length ct, .slice pd nd cd, .slice pk nk ck], Row (aP 3 .i64) pk nk ck K, R]) := by
 cases is with
 | true => exact zA h hd bf pp pl cp pt tr ct pd nd cd hpl htl hB R hR t ht
 | false =>
  have e := zr h hd bf pp pl cp pt tr ct pd nd cd hpl (hi rfl) htl hB t (ht.trans (decide_eq_true (aa.I4 h pl tr)))
  refine (e.frame [R]).mono ?_
  rintro e2 G ⟨v, rfl, G', ⟨pk, nk, ck, K, h1, h2, h3, rfl⟩, rfl⟩
  exact ⟨_, rfl, pk, nk, ck, K, h1, h2, h3, rfl⟩
set_option maxHeartbeats 16000000 in
theorem rq (p : Option Addr) (c : Nat) (B : List Int) (R : ab) (hR : ∀ w0 h, R w0 h → aR U5 p B.length B w0 h) (hl : B.length < 500000000) (hB : aj.av B) (hcap : B.length ≤ c) (r : aa.tt × Int) (hr0 : aa.nq B r) : aE Tryz.prog 14 [.slice p B.length c] [R] (aO fun v G => ∃ q n c2, v = .tuple #[.agg #[.int .i64 r.1.w, .int .i64 r.1.h, .slice q n c2], .int .i64 r.2] ∧ r.1.dv.length = n ∧ n ≤ c2 ∧ G = [Row (aP 62 .u16) q n c2 r.1.dv, R]) := by
 refine au [(0, _)] Tryz.func14 rfl Tryz.ntmps14 rfl rfl ?_
 intro w0 F
 refine rT aW 2 rfl ?_
 refine cn V.kD rfl ?_
 intro b2
 refine rO aW 3 rfl ?_
 rcases (hr0.Pu) with ⟨e, h1, hr⟩ | ⟨l, h1, ho, hr⟩ | ⟨l, h1, ho, hh, hr⟩ | ⟨l, h1, ho, hh, ht, hr⟩ | ⟨l, h1, ho, hh, ht, hc, hr⟩ | ⟨l, z, h1, ho, hh, ht, hc, hz, hr⟩
 ·refine rC aW 3 rfl ?_
  refine ai (Md p c B R hR hl hB hcap e h1) V.za  rfl (.cons az .nil) rfl ?_
  rintro _ _ ⟨rfl, rfl⟩
  refine rO aW 11 rfl ?_
  refine oV (aY (bY rfl rfl) (aa.Kq h1)) ?_
  refine rO aW 5 rfl ?_
  refine oV (cD V.mq V.kD rfl (cs := [_, _, _]) rfl) ?_
  refine oV (aJ rfl) ?_
  refine aT (aH V.ei rfl rfl (us := [_, _, _]) rfl rfl (by exact mi) (by exact Nat.le_of_ble_eq_true rfl) rfl) ?_
  refine rO aW 5 rfl ?_
  subst hr
  exact ak (eZ V.ei rfl bW rfl rfl) ⟨none, 0, 0, rfl, rfl, Nat.le_refl _, rfl⟩ ((ee (A := Row (aP 62 .u16) none 0 0 []) (fun w0 => Row.nil _ _ _)).trans (sub (bD .nil) cC))
 ·refine rC aW 3 rfl ?_
  refine ai (py p c B R hR hl hB hcap l h1) V.za  rfl (.cons az .nil) rfl ?_
  rintro _ _ ⟨q13, c13, es, rfl, hel, hco, rfl, rfl⟩
  refine rO aW 11 rfl ?_
  refine oV (aA (bY rfl rfl) (fun q => q rfl)) ?_
  refine rO aW 7 rfl ?_
  refine iV (fun w hi => gu hi (show Row CK q13 es.length c13 es ∈ _ by exact an)) (fun hcq => ?_)
  refine rC aW 2 rfl ?_
  refine ai (nQ q13 c13 es (Row CK q13 es.length c13 es) (fun _ _ hh => hh.rd) hel (l5 hB h1) hcq) V.CJ  rfl (ar .nil) rfl ?_
  rintro _ _ ⟨rfl, rfl⟩
  rw [aa.mj ho]
  refine rO aW 6 rfl ?_
  refine oV (aY (bY rfl rfl) (by decide)) ?_
  refine rO aW 5 rfl ?_
  refine oV (cD V.mq V.kD rfl (cs := [_, _, _]) rfl) ?_
  refine oV (aJ rfl) ?_
  refine aT (aH V.ei rfl rfl (us := [_, _, _]) rfl rfl (by exact yS) (by exact Nat.le_of_ble_eq_true rfl) rfl) ?_
  refine rO aW 5 rfl ?_
  subst hr
  exact ak (eZ V.ei rfl eI rfl rfl) ⟨none, 0, 0, rfl, rfl, Nat.le_refl _, rfl⟩ ((ee (A := Row (aP 62 .u16) none 0 0 []) (fun w0 => Row.nil _ _ _)).trans (sub (ar (.cons bX .nil)) oc))
 ·refine rC aW 3 rfl ?_
  refine ai (py p c B R hR hl hB hcap l h1) V.za  rfl (.cons az .nil) rfl ?_
  rintro _ _ ⟨q13, c13, es, rfl, hel, hco, rfl, rfl⟩
  refine rO aW 11 rfl ?_
  refine oV (aA (bY rfl rfl) (fun q => q rfl)) ?_
  refine rO aW 7 rfl ?_
  refine iV (fun w hi => gu hi (show Row CK q13 es.length c13 es ∈ _ by exact an)) (fun hcq => ?_)
  refine rC aW 2 rfl ?_
  refine ai (nQ q13 c13 es (Row CK q13 es.length c13 es) (fun _ _ hh => hh.rd) hel (l5 hB h1) hcq) V.CJ  rfl (ar .nil) rfl ?_
  rintro _ _ ⟨rfl, rfl⟩
  rw [aa.qi ho]
  refine rO aW 6 rfl ?_
  refine oV (aA (bY rfl rfl) (fun q => q rfl)) ?_
  refine rO aW 6 rfl ?_
  have h3 : 0 < es.length := by have := aa.vb ho; rw [List.length_map] at this; omega
  refine rC aW 2 rfl ?_
  refine oV (xI V.gr (own an)) ?_
  refine oV (aG V.k7 rfl) ?_
  refine oV (dP (c := (CK)) 1 V.ez rfl (own an) (by omega) (by omega) rfl rfl) ?_
  refine ai (ti (CK.g es 0).p (CK.g es 0).c (CK.g es 0).d (DK es) (nh (qa h3)) (aa.ig hB h1 (CK.g es 0).ch (List.mem_map_of_mem (qa h3)))) V.yz  rfl (.cons az .nil) rfl ?_
  rintro _ _ ⟨rfl, rfl⟩
  refine rO aW 3 rfl ?_
  refine cn V.m8 rfl ?_
  intro b7
  refine aT (aH V.jk rfl rfl (us := [_, _, _, _, _]) rfl rfl (by exact cZ) (by exact Nat.le_of_ble_eq_true rfl) rfl) ?_
  refine rO aW 7 rfl ?_
  refine oV (aY (bY rfl rfl) (by rw [← ql]; exact hh)) ?_
  refine rO aW 5 rfl ?_
  refine oV (cD V.mq V.kD rfl (cs := [_, _, _]) rfl) ?_
  refine oV (aJ rfl) ?_
  refine aT (aH V.ei rfl rfl (us := [_, _, _]) rfl rfl (by exact FM) (by exact Nat.le_of_ble_eq_true rfl) rfl) ?_
  refine rO aW 5 rfl ?_
  rw [← ql]
  subst hr
  exact ak (eZ V.ei rfl jz rfl rfl) ⟨none, 0, 0, rfl, rfl, Nat.le_refl _, rfl⟩ ((ee (A := Row (aP 62 .u16) none 0 0 []) (fun w0 => Row.nil _ _ _)).trans (sub (ar (.cons ed .nil)) mw))
 ·refine rC aW 3 rfl ?_
  refine ai (py p c B R hR hl hB hcap l h1) V.za  rfl (.cons az .nil) rfl ?_
  rintro _ _ ⟨q13, c13, es, rfl, hel, hco, rfl, rfl⟩
  refine rO aW 11 rfl ?_
  refine oV (aA (bY rfl rfl) (fun q => q rfl)) ?_
  refine rO aW 7 rfl ?_
  refine iV (fun w hi => gu hi (show Row CK q13 es.length c13 es ∈ _ by exact an)) (fun hcq => ?_)
  refine rC aW 2 rfl ?_
  refine ai (nQ q13 c13 es (Row CK q13 es.length c13 es) (fun _ _ hh => hh.rd) hel (l5 hB h1) hcq) V.CJ  rfl (ar .nil) rfl ?_
  rintro _ _ ⟨rfl, rfl⟩
  rw [aa.qi ho]
  refine rO aW 6 rfl ?_
  refine oV (aA (bY rfl rfl) (fun q => q rfl)) ?_
  refine rO aW 6 rfl ?_
  have h3 : 0 < es.length := by have := aa.vb ho; rw [List.length_map] at this; omega
  obtain ⟨h, hhd⟩ : ∃ h, h = aa.bj (aa.fE (es.map Ce.ch)) := ⟨_, rfl⟩
  rw [← hhd] at ht
  obtain ⟨hde, hsz⟩ := aa.rV hh
  rw [← hhd] at hde hsz
  have hd := aa.iA hde
  have hcl := aa.uz h1
  refine rC aW 2 rfl ?_
  refine oV (xI V.gr (own an)) ?_
  refine oV (aG V.k7 rfl) ?_
  refine oV (dP (c := (CK)) 1 V.ez rfl (own an) (by omega) (by omega) rfl rfl) ?_
  refine ai (ti (CK.g es 0).p (CK.g es 0).c (CK.g es 0).d (DK es) (nh (qa h3)) (aa.ig hB h1 (CK.g es 0).ch (List.mem_map_of_mem (qa h3)))) V.yz  rfl (.cons az .nil) rfl ?_
  rintro _ _ ⟨rfl, rfl⟩
  rw [← ql, hh, aa.vl hh, ← hhd]
  refine rO aW 3 rfl ?_
  refine cn V.m8 rfl ?_
  intro b7
  refine aT (aH V.jk rfl rfl (us := [_, _, _, _, _]) rfl rfl (by exact cZ) (by exact Nat.le_of_ble_eq_true rfl) rfl) ?_
  refine rO aW 7 rfl ?_
  refine oV (aA (bY rfl rfl) (fun q => q rfl)) ?_
  refine rO aW 8 rfl ?_
  refine ai (r3 q13 c13 es (Row CK q13 es.length c13 es) (fun _ _ hh => hh.rd) hel (l5 hB h1) hco (by omega)) V.KC  rfl (.cons bX (.cons az .nil)) rfl ?_
  rintro _ _ ⟨s, hs, rfl, rfl⟩
  refine rO aW 4 rfl ?_
  refine cn V.F6 rfl ?_
  intro b8
  refine aT (aH V.xY rfl rfl (us := [_, _, _, _, _, _, _, _, _]) rfl rfl (by exact cZ) (by exact Nat.le_of_ble_eq_true rfl) rfl) ?_
  refine rO aW 6 rfl ?_
  refine oV (bJ V.jk rfl jz (vs := [_, _, _, _, _]) rfl rfl) ?_
  refine oV (aG V.iD rfl) ?_
  refine aT (aH V.jk rfl rfl (us := [_, _, _, _, _]) rfl rfl (by exact cZ) (by exact Nat.le_of_ble_eq_true rfl) rfl) ?_
  refine rO aW 4 rfl ?_
  obtain ⟨eP, eT, eD, ep, et⟩ := tW hs ho
  have hso := hs
  obtain ⟨_, _, _, _, _, hcp, hct, hrP, hrT⟩ := hso
  have hBP : aj.av s.P := eP ▸ aa.lO (aa.ig hB h1) _
  have hBT : aj.av s.T := eT ▸ aa.lO (aa.ig hB h1) _
  have hBD : aj.av s.D := eD ▸ aa.si (aa.ig hB h1)
  have hlP : s.P.length < 500000000 := by rw [eP]; exact Nat.lt_of_le_of_lt aa.mG (by omega)
  have hlT : s.T.length < 500000000 := by rw [eT]; exact Nat.lt_of_le_of_lt aa.mG (by omega)
  have hlD : s.D.length < 500000000 := by rw [eD]; exact Nat.lt_of_le_of_lt (aa.om _) (by omega)
  have hn0 : s.hp = false → s.P = [] := fun q => by rw [eP]; exact aa.od (ep.symm.trans q)
  have hn1 : s.ht = false → s.T = [] := fun q => by rw [eT]; exact aa.od (et.symm.trans q)
  rw [← eP, ← ep] at ht
  refine rC aW 2 rfl ?_
  refine ai (uv h hd b8 s.pp s.P s.cp s.pt s.T s.ct s.pd s.D.length s.cd none 0 0 hlP s.hp false (decide_eq_false ht).symm) V.Jp  rfl (ar .nil) rfl ?_
  rintro _ _ ⟨rfl, rfl⟩
  refine rO aW 11 rfl ?_
  refine oV (cD V.mq V.kD rfl (cs := [_, _, _]) rfl) ?_
  refine aT (aH V.ei rfl rfl (us := [_, _, _]) rfl rfl (by exact NZ) (by exact Nat.le_of_ble_eq_true rfl) rfl) ?_
  refine rO aW 5 rfl ?_
  subst hr
  exact ak (eZ V.ei rfl LP rfl rfl) ⟨none, 0, 0, rfl, rfl, Nat.le_refl _, rfl⟩ ((ee (A := Row (aP 62 .u16) none 0 0 []) (fun w0 => Row.nil _ _ _)).trans (sub (ar (.cons j6 .nil)) Og))
 ·refine rC aW 3 rfl ?_
  refine ai (py p c B R hR hl hB hcap l h1) V.za  rfl (.cons az .nil) rfl ?_
  rintro _ _ ⟨q13, c13, es, rfl, hel, hco, rfl, rfl⟩
  refine rO aW 11 rfl ?_
  refine oV (aA (bY rfl rfl) (fun q => q rfl)) ?_
  refine rO aW 7 rfl ?_
  refine iV (fun w hi => gu hi (show Row CK q13 es.length c13 es ∈ _ by exact an)) (fun hcq => ?_)
  refine rC aW 2 rfl ?_
  refine ai (nQ q13 c13 es (Row CK q13 es.length c13 es) (fun _ _ hh => hh.rd) hel (l5 hB h1) hcq) V.CJ  rfl (ar .nil) rfl ?_
  rintro _ _ ⟨rfl, rfl⟩
  rw [aa.qi ho]
  refine rO aW 6 rfl ?_
  refine oV (aA (bY rfl rfl) (fun q => q rfl)) ?_
  refine rO aW 6 rfl ?_
  have h3 : 0 < es.length := by have := aa.vb ho; rw [List.length_map] at this; omega
  obtain ⟨h, hhd⟩ : ∃ h, h = aa.bj (aa.fE (es.map Ce.ch)) := ⟨_, rfl⟩
  rw [← hhd] at ht
  obtain ⟨hde, hsz⟩ := aa.rV hh
  rw [← hhd] at hde hsz
  have hd := aa.iA hde
  have hcl := aa.uz h1
  refine rC aW 2 rfl ?_
  refine oV (xI V.gr (own an)) ?_
  refine oV (aG V.k7 rfl) ?_
  refine oV (dP (c := (CK)) 1 V.ez rfl (own an) (by omega) (by omega) rfl rfl) ?_
  refine ai (ti (CK.g es 0).p (CK.g es 0).c (CK.g es 0).d (DK es) (nh (qa h3)) (aa.ig hB h1 (CK.g es 0).ch (List.mem_map_of_mem (qa h3)))) V.yz  rfl (.cons az .nil) rfl ?_
  rintro _ _ ⟨rfl, rfl⟩
  rw [← ql, hh, aa.vl hh, ← hhd]
  refine rO aW 3 rfl ?_
  refine cn V.m8 rfl ?_
  intro b7
  refine aT (aH V.jk rfl rfl (us := [_, _, _, _, _]) rfl rfl (by exact cZ) (by exact Nat.le_of_ble_eq_true rfl) rfl) ?_
  refine rO aW 7 rfl ?_
  refine oV (aA (bY rfl rfl) (fun q => q rfl)) ?_
  refine rO aW 8 rfl ?_
  refine ai (r3 q13 c13 es (Row CK q13 es.length c13 es) (fun _ _ hh => hh.rd) hel (l5 hB h1) hco (by omega)) V.KC  rfl (.cons bX (.cons az .nil)) rfl ?_
  rintro _ _ ⟨s, hs, rfl, rfl⟩
  refine rO aW 4 rfl ?_
  refine cn V.F6 rfl ?_
  intro b8
  refine aT (aH V.xY rfl rfl (us := [_, _, _, _, _, _, _, _, _]) rfl rfl (by exact cZ) (by exact Nat.le_of_ble_eq_true rfl) rfl) ?_
  refine rO aW 6 rfl ?_
  refine oV (bJ V.jk rfl jz (vs := [_, _, _, _, _]) rfl rfl) ?_
  refine oV (aG V.iD rfl) ?_
  refine aT (aH V.jk rfl rfl (us := [_, _, _, _, _]) rfl rfl (by exact cZ) (by exact Nat.le_of_ble_eq_true rfl) rfl) ?_
  refine rO aW 4 rfl ?_
  obtain ⟨eP, eT, eD, ep, et⟩ := tW hs ho
  have hso := hs
  obtain ⟨_, _, _, _, _, hcp, hct, hrP, hrT⟩ := hso
  have hBP : aj.av s.P := eP ▸ aa.lO (aa.ig hB h1) _
  have hBT : aj.av s.T := eT ▸ aa.lO (aa.ig hB h1) _
  have hBD : aj.av s.D := eD ▸ aa.si (aa.ig hB h1)
  have hlP : s.P.length < 500000000 := by rw [eP]; exact Nat.lt_of_le_of_lt aa.mG (by omega)
  have hlT : s.T.length < 500000000 := by rw [eT]; exact Nat.lt_of_le_of_lt aa.mG (by omega)
  have hlD : s.D.length < 500000000 := by rw [eD]; exact Nat.lt_of_le_of_lt (aa.om _) (by omega)
  have hn0 : s.hp = false → s.P = [] := fun q => by rw [eP]; exact aa.od (ep.symm.trans q)
  have hn1 : s.ht = false → s.T = [] := fun q => by rw [eT]; exact aa.od (et.symm.trans q)
  rw [← eP, ← ep] at ht
  rw [← hhd, ← eP, ← eT, ← et] at hc
  refine rC aW 2 rfl ?_
  refine ai (uv h hd b8 s.pp s.P s.cp s.pt s.T s.ct s.pd s.D.length s.cd none 0 0 hlP s.hp true (decide_eq_true ht).symm) V.Jp  rfl (ar .nil) rfl ?_
  rintro _ _ ⟨rfl, rfl⟩
  refine rO aW 3 rfl ?_
  refine ag rfl ?_
  refine ai (wj h hd b8 s.pp s.P s.cp s.pt s.T s.ct s.pd s.D.length s.cd hlP hlT hBT (DK es) hrT s.ht hn1 false (decide_eq_false hc).symm) V.N7  rfl (ar (.cons bX .nil)) rfl ?_
  rintro _ _ ⟨pk, nk, ck, K, hK, hKn, rfl, rfl⟩
  refine rO aW 7 rfl ?_
  refine oV (cD V.mq V.kD rfl (cs := [_, _, _]) rfl) ?_
  refine aT (aH V.ei rfl rfl (us := [_, _, _]) rfl rfl (by exact NW) (by exact Nat.le_of_ble_eq_true rfl) rfl) ?_
  refine rO aW 5 rfl ?_
  subst hr
  exact ak (eZ V.ei rfl xf rfl rfl) ⟨none, 0, 0, rfl, rfl, Nat.le_refl _, rfl⟩ ((ee (A := Row (aP 62 .u16) none 0 0 []) (fun w0 => Row.nil _ _ _)).trans (sub (ar (.cons n4 .nil)) E4))
 ·refine rC aW 3 rfl ?_
  refine ai (py p c B R hR hl hB hcap l h1) V.za  rfl (.cons az .nil) rfl ?_
  rintro _ _ ⟨q13, c13, es, rfl, hel, hco, rfl, rfl⟩
  refine rO aW 11 rfl ?_
  refine oV (aA (bY rfl rfl) (fun q => q rfl)) ?_
  refine rO aW 7 rfl ?_
  refine iV (fun w hi => gu hi (show Row CK q13 es.length c13 es ∈ _ by exact an)) (fun hcq => ?_)
  refine rC aW 2 rfl ?_
  refine ai (nQ q13 c13 es (Row CK q13 es.length c13 es) (fun _ _ hh => hh.rd) hel (l5 hB h1) hcq) V.CJ  rfl (ar .nil) rfl ?_
  rintro _ _ ⟨rfl, rfl⟩
  rw [aa.qi ho]
  refine rO aW 6 rfl ?_
  refine oV (aA (bY rfl rfl) (fun q => q rfl)) ?_
  refine rO aW 6 rfl ?_
  have h3 : 0 < es.length := by have := aa.vb ho; rw [List.length_map] at this; omega
  obtain ⟨h, hhd⟩ : ∃ h, h = aa.bj (aa.fE (es.map Ce.ch)) := ⟨_, rfl⟩
  rw [← hhd] at ht
  obtain ⟨hde, hsz⟩ := aa.rV hh
  rw [← hhd] at hde hsz
  have hd := aa.iA hde
  have hcl := aa.uz h1
  refine rC aW 2 rfl ?_
  refine oV (xI V.gr (own an)) ?_
  refine oV (aG V.k7 rfl) ?_
  refine oV (dP (c := (CK)) 1 V.ez rfl (own an) (by omega) (by omega) rfl rfl) ?_
  refine ai (ti (CK.g es 0).p (CK.g es 0).c (CK.g es 0).d (DK es) (nh (qa h3)) (aa.ig hB h1 (CK.g es 0).ch (List.mem_map_of_mem (qa h3)))) V.yz  rfl (.cons az .nil) rfl ?_
  rintro _ _ ⟨rfl, rfl⟩
  rw [← ql, hh, aa.vl hh, ← hhd]
  refine rO aW 3 rfl ?_
  refine cn V.m8 rfl ?_
  intro b7
  refine aT (aH V.jk rfl rfl (us := [_, _, _, _, _]) rfl rfl (by exact cZ) (by exact Nat.le_of_ble_eq_true rfl) rfl) ?_
  refine rO aW 7 rfl ?_
  refine oV (aA (bY rfl rfl) (fun q => q rfl)) ?_
  refine rO aW 8 rfl ?_
  refine ai (r3 q13 c13 es (Row CK q13 es.length c13 es) (fun _ _ hh => hh.rd) hel (l5 hB h1) hco (by omega)) V.KC  rfl (.cons bX (.cons az .nil)) rfl ?_
  rintro _ _ ⟨s, hs, rfl, rfl⟩
  refine rO aW 4 rfl ?_
  refine cn V.F6 rfl ?_
  intro b8
  refine aT (aH V.xY rfl rfl (us := [_, _, _, _, _, _, _, _, _]) rfl rfl (by exact cZ) (by exact Nat.le_of_ble_eq_true rfl) rfl) ?_
  refine rO aW 6 rfl ?_
  refine oV (bJ V.jk rfl jz (vs := [_, _, _, _, _]) rfl rfl) ?_
  refine oV (aG V.iD rfl) ?_
  refine aT (aH V.jk rfl rfl (us := [_, _, _, _, _]) rfl rfl (by exact cZ) (by exact Nat.le_of_ble_eq_true rfl) rfl) ?_
  refine rO aW 4 rfl ?_
  obtain ⟨eP, eT, eD, ep, et⟩ := tW hs ho
  have hso := hs
  obtain ⟨_, _, _, _, _, hcp, hct, hrP, hrT⟩ := hso
  have hBP : aj.av s.P := eP ▸ aa.lO (aa.ig hB h1) _
  have hBT : aj.av s.T := eT ▸ aa.lO (aa.ig hB h1) _
  have hBD : aj.av s.D := eD ▸ aa.si (aa.ig hB h1)
  have hlP : s.P.length < 500000000 := by rw [eP]; exact Nat.lt_of_le_of_lt aa.mG (by omega)
  have hlT : s.T.length < 500000000 := by rw [eT]; exact Nat.lt_of_le_of_lt aa.mG (by omega)
  have hlD : s.D.length < 500000000 := by rw [eD]; exact Nat.lt_of_le_of_lt (aa.om _) (by omega)
  have hn0 : s.hp = false → s.P = [] := fun q => by rw [eP]; exact aa.od (ep.symm.trans q)
  have hn1 : s.ht = false → s.T = [] := fun q => by rw [eT]; exact aa.od (et.symm.trans q)
  rw [← eP, ← ep] at ht
  rw [← hhd, ← eP, ← eT, ← et] at hc
  refine rC aW 2 rfl ?_
  refine ai (uv h hd b8 s.pp s.P s.cp s.pt s.T s.ct s.pd s.D.length s.cd none 0 0 hlP s.hp true (decide_eq_true ht).symm) V.Jp  rfl (ar .nil) rfl ?_
  rintro _ _ ⟨rfl, rfl⟩
  refine rO aW 3 rfl ?_
  refine ag rfl ?_
  refine ai (wj h hd b8 s.pp s.P s.cp s.pt s.T s.ct s.pd s.D.length s.cd hlP hlT hBT (DK es) hrT s.ht hn1 true (decide_eq_true hc).symm) V.N7  rfl (ar (.cons bX .nil)) rfl ?_
  rintro _ _ ⟨pk, nk, ck, K, hK, rfl, rfl, rfl⟩
  obtain rfl := hK rfl
  refine rO aW 8 rfl ?_
  refine iV (fun w hi => gu hi (show Row U5 s.pd s.D.length s.cd s.D ∈ _ by exact eI)) (fun hcD => ?_)
  refine a7 ?_
  refine ai (Ki h b8 s.pp s.P s.cp s.pt s.T s.ct s.pd s.cd pk ck (DK es) hrP hrT hcp hBP hBT hlP hlT (Row (aP 3 .i64) pk (aa.bA h s.T).length ck (aa.bA h s.T)) (fun _ _ hh => hh.rd) (aa.GU hde hBP hBT hlP hlT ht hc hn0 hn1) hsz s.D hBD hlD hcD (Row U5 s.pd s.D.length s.cd s.D) (fun _ _ hh => hh.rd) z (by rw [eD, hhd]; exact hz)) V.Qm  rfl (bD (.cons az (.cons dS .nil))) rfl ?_
  rintro _ _ ⟨q55, n55, c55, rfl, hn55, hc55, rfl⟩
  refine rO aW 2 rfl ?_
  refine aT (aH V.ei rfl rfl (us := [_, _, _]) rfl rfl (by exact FM) (by exact Nat.le_of_ble_eq_true rfl) rfl) ?_
  refine rO aW 4 rfl ?_
  rw [aa.Lz hhd eP eT] at hr
  subst hr
  exact ak (eZ V.ei rfl jz rfl rfl) ⟨q55, n55, c55, rfl, hn55, hc55, rfl⟩ (sub (ar (.cons bX .nil)) oc)
end Go.Proofs.YtmaiakpjgomnpaaGreat
namespace Go.Proofs.YtmaiakpjgomnpaaGreat
open Go.Sl
theorem V.QP : aF Tryz.prog 35 = true := by kernel_rfl
end Go.Proofs.YtmaiakpjgomnpaaGreat
namespace Go.Proofs.YtmaiakpjgomnpaaGreat
open Go.Sl 
theorem Rn : dR Tryz.prog ⟨[22, 59, 64], [(38, 0, 0), (38, 1, 1), (38, 4, 4), (57, 0, 0), (57, 1, 1), (67, 0, 0), (67, 1, 1), (67, 2, 2), (67, 3, 3), (67, 4, 4), (67, 5, 5)]⟩ = true := by kernel_rfl
attribute [local irreducible] aj.av aa.bN aa.cU aa.deep aa.parts HW aa.bA aa.iX aa.fC aa.gq aa.gK aa.ft aa.lE aa.kS aa.gl aa.ff aa.gO aa.mf aa.want aa.bg aa.lF aa.nJ aa.nH aa.jV aL.nZ aa.bS aa.bd aa.bR aa.cu aa.dm aa.fO aa.ju aa.jC aa.oL aa.dh aa.dN aa.cut aa.fE aa.xk aa.cE aa.fD
theorem HI (w h : Int) (hs : aa.bN w h = 0) : aE Tryz.prog 35 [.int .i64 w, .int .i64 h] [] (aO fun v G => ∃ b : Nat, v = .tuple #[.agg #[.int .i64 w, .int .i64 h, .slice (some ⟨b, 0, none⟩) ((4 * w * h).toNat) ((4 * w * h).toNat)], .int .i64 0] ∧ G = [Row (aP 62 .u16) (some ⟨b, 0, none⟩) ((4 * w * h).toNat) ((4 * w * h).toNat) (List.replicate ((4 * w * h).toNat) 0)]) := by
  refine (NL w h).mono ?_
  rintro e2 G ⟨v, rfl, (⟨h1, _⟩ | ⟨_, b, rfl, rfl⟩)⟩
  · exact absurd hs h1
  · exact ⟨_, rfl, b, rfl, rfl⟩
end Go.Proofs.YtmaiakpjgomnpaaGreat
