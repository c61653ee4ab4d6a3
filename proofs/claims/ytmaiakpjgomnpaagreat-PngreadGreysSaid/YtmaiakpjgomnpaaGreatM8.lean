/- Walks of functions that the law reaches, and what they lean on; no conditions. -/
import Derived.Test.YtmaiakpjgomnpaaGreatM0
import Derived.Test.YtmaiakpjgomnpaaGreatM4
import Derived.Test.YtmaiakpjgomnpaaGreatM2
import Derived.Test.YtmaiakpjgomnpaaGreatM1
import Derived.KernelRfl
import Derived.Test.YtmaiakpjgomnpaaGreatM7
set_option linter.unusedVariables false
set_option linter.unusedSimpArgs false
set_option maxRecDepth 100000
namespace Go.Proofs.YtmaiakpjgomnpaaGreat
open Go.Sl 
attribute [local irreducible] af.an aa.aW aa.up aa.bO aa.fK aa.D5 aa.deep aa.parts HW aa.aR aa.fS aa.dX aa.p9 aa.ky aa.fz
set_option maxHeartbeats 1000000 in
theorem zQ (p1 : Option Addr) (n1 c1 : Nat) (L1 : List Int) (hn1 : L1.length = n1) (R1 : ad) (hR1 : ∀ w0 h, R1 w0 h → aE (aC 3 .i64) p1 n1 L1 w0 h) (p2 : Option Addr) (n2 c2 : Nat) (L2 : List Int) (hn2 : L2.length = n2) (R2 : ad) (hR2 : ∀ w0 h, R2 w0 h → aE (aC 3 .i64) p2 n2 L2 w0 h) (hs1 : n1 ≤ 100000000) (t : Bool) (ht : t = decide (L1 = L2)) : aA Tryz.prog 173 [.slice p1 n1 c1, .slice p2 n2 c2] [R1, R2] (aF fun v G => v = .bool t ∧ G = [R1, R2]) := by
  refine au [(0, _), (1, _)] Tryz.func173 rfl Tryz.ntmps173 rfl rfl ?_
  intro w0 F
  refine (QP) ?_
  rcases (Classical.em (n1 = n2)) with hne0 | hne0
  ·
    refine (Qs)<|(yk)<|(QK) ?_
    refine cE (fun (i : Nat) => [(0, .slice p1 n1 c1), (1, .slice p2 n2 c2), (12, .int .i64 (n1 : Int)), (13, .int .i64 (i : Int))]) (fun (i : Nat) => R1 :: R2 :: F) (fun (i : Nat) => i ≤ n1 ∧ ∀ j, j < i → L1.getD j 0 = L2.getD j 0) (fun (i : Nat) => n1 - i) (i1 (0) ?_ (eg ln) (sub (aO .nil) ak)) ?_
    ·
      exact ⟨Nat.zero_le _, fun j hj => by omega⟩
    intro i
    rintro ⟨hi, hall⟩
    refine (Qm) ?_
    refine aD rfl (fun h14 => ?_) (fun h14 => ?_)
    ·
      refine (QC) ?_
      rcases (Classical.em (((aC 3 .i64).g L1 (i : Int)) ≠ ((aC 3 .i64).g L2 (i : Int)))) with hne | hne
      ·
        refine (Qa)<|(so) ?_
        refine rR TT 2 rfl<|(UE) ?_
        refine rR TT 2 rfl<|(UL) ?_
        refine oR (c9 (cG rfl rfl) hne)<|Rg.c4<|rN TT 13 rfl ?_
        obtain rfl : t = false := ht.trans (decide_eq_false (aa.Jg hne))
        exact ag (av rfl) ⟨rfl, rfl⟩ (sub (aO .nil) ak)
      ·
        refine (Qa)<|(so) ?_
        refine rR TT 2 rfl<|(UE) ?_
        refine rR TT 2 rfl<|(UL) ?_
        refine oR (bS (cG rfl rfl) hne)<|Rg.c4<|M7 TT 9 rfl (by omega) ?_
        refine j1 (i + 1) ?_ (eg ln) (sub (aO .nil) ak)
        exact ⟨⟨by omega, fun j hj => (Nat.lt_succ_iff_lt_or_eq.1 hj).elim (hall j) (fun e => e ▸ Classical.not_not.1 hne)⟩, by omega⟩
    ·
      refine (ox) ?_
      obtain rfl : t = true := ht.trans (decide_eq_true (aa.CR (by omega) (fun j hj => hall j (by omega))))
      exact ag (av rfl) ⟨rfl, rfl⟩ (sub (aO .nil) ak)
  ·
    refine (Qs)<|(OT)<|(Qe) ?_
    obtain rfl : t = false := ht.trans (decide_eq_false (fun e => hne0 (by rw [← hn1, ← hn2, e])))
    exact ag (av rfl) ⟨rfl, rfl⟩ (sub (aO .nil) ak)
set_option maxHeartbeats 2000000 in
theorem Bh (h : aa.Hd) (bf : Nat) (pp : Option Addr) (pl : List Int) (cp : Nat) (pt : Option Addr) (tr : List Int) (ct : Nat) (pd : Option Addr) (nd cd : Nat) (pk : Option Addr) (nk ck : Nat) (R : ad) (hP : ∀ w0 h, R w0 h → aE U5 pp pl.length pl w0 h) (hT : ∀ w0 h, R w0 h → aE U5 pt tr.length tr w0 h) (hcp : pl.length ≤ cp) (hB : af.an pl) (hBt : af.an tr) (hpl : pl.length < 500000000) (htl : tr.length < 500000000) (k : Nat) (hk : pl.length / 3 ≤ k) (hkb : k < 100000000) : aA Tryz.prog 171 [.pointer (some ⟨bf, 0, none⟩), .int .i64 (k : Int)] [ai bf 90 [.int .i64 h.w, .int .i64 h.h, .int .i64 h.dep, .int .i64 h.ar, .bool h.ba, .slice pp pl.length cp, .slice pt tr.length ct, .slice pd nd cd, .slice pk nk ck], R] (aF fun v G => v = .tuple #[.agg #[.int .u16 0, .int .u16 0, .int .u16 0, .int .u16 0], .bool false] ∧ G = [ai bf 90 [.int .i64 h.w, .int .i64 h.h, .int .i64 h.dep, .int .i64 h.ar, .bool h.ba, .slice pp pl.length cp, .slice pt tr.length ct, .slice pd nd cd, .slice pk nk ck], R]) := by
  refine au [(0, _), (1, _)] Tryz.func171 rfl Tryz.ntmps171 rfl rfl ?_
  intro w0 F
  refine (Qt)<|(yB) ?_
  intro b4
  refine (Qe)<|(vb)<|(ow)<|(qc)<|(QO)<|(Q3) ?_
  refine oV (jl V.rn V.wJ rfl (cs := [_, _, _, _]) rfl)<|(PF)<|(Q3) ?_
  exact ag (dU V.ml rfl aB rfl rfl) ⟨rfl, rfl⟩ (sub (.cons ax (.cons ax .nil)) bu)
set_option maxHeartbeats 2000000 in
theorem Bm (h : aa.Hd) (bf : Nat) (pp : Option Addr) (pl : List Int) (cp : Nat) (pt : Option Addr) (tr : List Int) (ct : Nat) (pd : Option Addr) (nd cd : Nat) (pk : Option Addr) (nk ck : Nat) (R : ad) (hP : ∀ w0 h, R w0 h → aE U5 pp pl.length pl w0 h) (hT : ∀ w0 h, R w0 h → aE U5 pt tr.length tr w0 h) (hcp : pl.length ≤ cp) (hB : af.an pl) (hBt : af.an tr) (hpl : pl.length < 500000000) (htl : tr.length < 500000000) (k : Nat) (hk : ¬ pl.length / 3 ≤ k) : aA Tryz.prog 171 [.pointer (some ⟨bf, 0, none⟩), .int .i64 (k : Int)] [ai bf 90 [.int .i64 h.w, .int .i64 h.h, .int .i64 h.dep, .int .i64 h.ar, .bool h.ba, .slice pp pl.length cp, .slice pt tr.length ct, .slice pd nd cd, .slice pk nk ck], R] (aF fun v G => v = .tuple #[.agg #[.int .u16 ((pl.drop (3 * k)).getD 0 0 * 257), .int .u16 ((pl.drop (3 * k)).getD 1 0 * 257), .int .u16 ((pl.drop (3 * k)).getD 2 0 * 257), .int .u16 (if k < tr.length then tr.getD k 0 * 257 else 65535)], .bool true] ∧ G = [ai bf 90 [.int .i64 h.w, .int .i64 h.h, .int .i64 h.dep, .int .i64 h.ar, .bool h.ba, .slice pp pl.length cp, .slice pt tr.length ct, .slice pd nd cd, .slice pk nk ck], R]) := by
  refine au [(0, _), (1, _)] Tryz.func171 rfl Tryz.ntmps171 rfl rfl ?_
  intro w0 F
  have hBd := aa.dQ hB (3 * k)
  have hS : ∀ w0 h, R w0 h → aE U5 (dG pp (3 * k) cp 1) (pl.length - 3 * k) (pl.drop (3 * k)) w0 h := fQ (c := U5) hP rfl (3 * k) cp (by omega) hcp
  have hPl : (pl.drop (3 * k)).length = pl.length - 3 * k := List.length_drop
  refine (Qt)<|(yB) ?_
  intro b4
  refine (Qe)<|(vb)<|(ow)<|(qc)<|(oO)<|(Qe)<|(vb)<|(Q7) ?_
  refine oV (cW (v := .int .i64 ((3 * k : Nat) : Int)) (gG (r := 3 * (k : Int)) rfl rfl wI) (congrArg (Value.int .i64) (by omega)))<|oV (eh (3 * k) pl.length cp V.bE rfl ⟨_, rfl⟩ ⟨rfl, rfl⟩ rfl (by omega) (by omega) (by omega))<|(Ql) ?_
  refine iz (fun (al : Int) => [(4, .pointer (some ⟨b4, 0, none⟩)), (6, .slice (dG pp (3 * k) cp 1) (pl.length - 3 * k) (cp - 3 * k)), (7, .int .u16 al)]) (fun (al : Int) => ai b4 68 [.int .u16 0, .int .u16 0, .int .u16 0, .int .u16 0] :: ai bf 90 [.int .i64 h.w, .int .i64 h.h, .int .i64 h.dep, .int .i64 h.ar, .bool h.ba, .slice pp pl.length cp, .slice pt tr.length ct, .slice pd nd cd, .slice pk nk ck] :: R :: F) (fun (al : Int) => al = (if k < tr.length then tr.getD k 0 * 257 else 65535)) ?_ ?_
  ·
    rcases (Classical.em (k < tr.length)) with hkt | hkt
    ·
      refine (Qm)<|(vb)<|(ow)<|(QY)<|(Qc)<|(vb)<|(Q7) ?_
      refine oV (xI V.bE (by exact bK hT dJ))<|oV (xL V.s5 (by exact bK hT dJ))<|aj (tp (U5.g tr (k : Int)) (hBt.get k)) V.Bw  rfl .nil rfl ?_
      rintro _ _ ⟨rfl, rfl⟩
      refine (Q6) ?_
      refine j1 (_) ?_ (gL ln) (sub (eU .nil) ak)
      exact (if_pos hkt).symm
    ·
      refine (Qm)<|(vb)<|(ow)<|(QE)<|(Q8) ?_
      refine j1 (_) ?_ (gL ln) (sub (eU .nil) ak)
      exact (if_neg hkt).symm
  ·
    intro al
    rintro hal
    refine rC TT 1 rfl ?_
    refine wN [pz 0 [] [6], pz 1 [0] [], pz 3 [1] [], pz 7 [2] [], pz 0 [] [6], pz 16 [4] [], pz 48 [5] [], pz 127 [6] [], pz 0 [] [6], pz 256 [8] [], pz 768 [9] [], pz 2047 [10] [], pz 0 [] [7], pz 8191 [3, 7, 11, 12] [], pz 16383 [13] [4], pz 32767 [] []] [⟨fun y => ai b4 68 [.int .u16 0, .int .u16 0, .int .u16 0, .int .u16 0], none, some 14, []⟩, ⟨fun y => ai bf 90 [.int .i64 h.w, .int .i64 h.h, .int .i64 h.dep, .int .i64 h.ar, .bool h.ba, .slice pp pl.length cp, .slice pt tr.length ct, .slice pd nd cd, .slice pk nk ck], none, none, []⟩, ⟨fun y => R, none, none, [1, 2, 5, 6, 9, 10]⟩, ⟨fun y => ai b4 68 [.int .u16 (U5.g (pl.drop (3 * k)) 0 * 257), .int .u16 (U5.g (pl.drop (3 * k)) 1 * 257), .int .u16 (U5.g (pl.drop (3 * k)) 2 * 257), .int .u16 al], some 14, none, []⟩] F V.mixed ?_
    refine nM ?_
    refine nR (fun y FF hA => xI V.bE (by exact bK hS aB)) ?_
    refine nR (fun y FF hA => xL V.s5 (by exact bK hS aB)) ?_
    refine nE (fun y FF hA => aV (Post := []) (tp (U5.g (pl.drop (3 * k)) 0) (hBd.get 0)) V.Bw rfl .nil (fun v G h => by rcases h with ⟨rfl, rfl⟩; exact ⟨rfl, .refl _⟩)) ?_
    refine nM ?_
    refine nR (fun y FF hA => xI V.bE (by exact bK hS aB)) ?_
    refine nR (fun y FF hA => xL V.s5 (by exact bK hS aB)) ?_
    refine nE (fun y FF hA => aV (Post := []) (tp (U5.g (pl.drop (3 * k)) 1) (hBd.get 1)) V.Bw rfl .nil (fun v G h => by rcases h with ⟨rfl, rfl⟩; exact ⟨rfl, .refl _⟩)) ?_
    refine nM ?_
    refine nR (fun y FF hA => xI V.bE (by exact bK hS aB)) ?_
    refine nR (fun y FF hA => xL V.s5 (by exact bK hS aB)) ?_
    refine nE (fun y FF hA => aV (Post := []) (tp (U5.g (pl.drop (3 * k)) 2) (hBd.get 2)) V.Bw rfl .nil (fun v G h => by rcases h with ⟨rfl, rfl⟩; exact ⟨rfl, .refl _⟩)) ?_
    refine nM ?_
    refine nV (fun y hA L => jl V.rn V.wJ rfl (cs := [.int .u16 (U5.g (pl.drop (3 * k)) 0 * 257), .int .u16 (U5.g (pl.drop (3 * k)) 1 * 257), .int .u16 (U5.g (pl.drop (3 * k)) 2 * 257), .int .u16 al]) (by kernel_rfl)) ?_
    refine nE (fun y FF hA => de (bd V.ml rfl rfl (us := [_, _, _, _]) rfl rfl (by exact fO) (by exact Nat.le_of_ble_eq_true rfl) rfl) ⟨rfl, .refl _⟩) ?_
    refine nA ?_
    refine cQ ?_
    intro y hA
    clear hA
    refine bj<|(VC) ?_
    refine a7 (M := ai bf 90 [.int .i64 h.w, .int .i64 h.h, .int .i64 h.dep, .int .i64 h.ar, .bool h.ba, .slice pp pl.length cp, .slice pt tr.length ct, .slice pd nd cd, .slice pk nk ck] :: R :: ai b4 68 [.int .u16 (U5.g (pl.drop (3 * k)) 0 * 257), .int .u16 (U5.g (pl.drop (3 * k)) 1 * 257), .int .u16 (U5.g (pl.drop (3 * k)) 2 * 257), .int .u16 al] :: F) (fun _ _ h => h)<|(Qa) ?_
    exact ag (dU V.ml rfl dJ rfl rfl) ⟨by rw [← hal]; rfl, rfl⟩ (sub (aO .nil) bu)
set_option maxHeartbeats 4000000 in
theorem EZ (h : aa.Hd) (bf : Nat) (pp : Option Addr) (pl : List Int) (cp : Nat) (pt : Option Addr) (tr : List Int) (ct : Nat) (pd : Option Addr) (nd cd : Nat) (pk : Option Addr) (ck : Nat) (R : ad) (hP : ∀ w0 h, R w0 h → aE U5 pp pl.length pl w0 h) (hT : ∀ w0 h, R w0 h → aE U5 pt tr.length tr w0 h) (hcp : pl.length ≤ cp) (hB : af.an pl) (hBt : af.an tr) (hpl : pl.length < 500000000) (htl : tr.length < 500000000) (pv : Option Addr) (cv : Nat) (v : List Int) (Rk Rv : ad) (hRk : ∀ w0 h_, Rk w0 h_ → aE (aC 3 .i64) pk (aa.aR h tr).length (aa.aR h tr) w0 h_) (hRv : ∀ w0 h_, Rv w0 h_ → aE (aC 3 .i64) pv v.length v w0 h_) (hf : aa.fz ⟨h, pl, tr⟩) (hvl : v.length = (aa.parts h.ar).toNat) (hvx : ∀ x ∈ v, 0 ≤ x ∧ x < 2 ^ h.dep.toNat) (h3 : h.ar = 3) (k : Nat) (hk0 : v.getD 0 0 = (k : Int)) (hkb : k < 100000000) (hk : pl.length / 3 ≤ k) : aA Tryz.prog 151 [.pointer (some ⟨bf, 0, none⟩), .slice pv v.length cv] [ai bf 90 [.int .i64 h.w, .int .i64 h.h, .int .i64 h.dep, .int .i64 h.ar, .bool h.ba, .slice pp pl.length cp, .slice pt tr.length ct, .slice pd nd cd, .slice pk (aa.aR h tr).length ck], Rk, Rv, R] (aF fun e G => e = .tuple #[.agg #[.int .u16 0, .int .u16 0, .int .u16 0, .int .u16 0], .bool false] ∧ G = [ai bf 90 [.int .i64 h.w, .int .i64 h.h, .int .i64 h.dep, .int .i64 h.ar, .bool h.ba, .slice pp pl.length cp, .slice pt tr.length ct, .slice pd nd cd, .slice pk (aa.aR h tr).length ck], Rk, Rv, R]) := by
  refine (Nc) ?_
  intro w0 F
  have hde : aa.deep h.ar h.dep := by unfold aa.fz at hf; exact hf.1
  have hpc := aa.gg hde
  have hd := aa.gm hde
  have hUl : (v.map (aa.up h.dep)).length = v.length := List.length_map ..
  have hdi := aa.iT hd
  refine (Qt)<|(yB) ?_
  intro b4
  refine (Qe)<|(QW)<|(Qv)<|(Qc)<|(VO) ?_
  rw [show (aC 3 .i64).g v 0 = (k : Int) from hk0]
  refine aj (Bh h bf pp pl cp pt tr ct pd nd cd pk (aa.aR h tr).length ck R hP hT hcp hB hBt hpl htl k hk (by omega)) V.NX  rfl (.cons ax (.cons dk .nil)) rfl ?_
  rintro _ _ ⟨rfl, rfl⟩
  refine (Q6)<|(Us)<|(Q3) ?_
  exact ag (dU V.ml rfl dJ rfl rfl) ⟨rfl, rfl⟩ (sub (ao (.cons bo (.cons bo (.cons dj .nil)))) bu)
set_option maxHeartbeats 4000000 in
theorem ED (h : aa.Hd) (bf : Nat) (pp : Option Addr) (pl : List Int) (cp : Nat) (pt : Option Addr) (tr : List Int) (ct : Nat) (pd : Option Addr) (nd cd : Nat) (pk : Option Addr) (ck : Nat) (R : ad) (hP : ∀ w0 h, R w0 h → aE U5 pp pl.length pl w0 h) (hT : ∀ w0 h, R w0 h → aE U5 pt tr.length tr w0 h) (hcp : pl.length ≤ cp) (hB : af.an pl) (hBt : af.an tr) (hpl : pl.length < 500000000) (htl : tr.length < 500000000) (pv : Option Addr) (cv : Nat) (v : List Int) (Rk Rv : ad) (hRk : ∀ w0 h_, Rk w0 h_ → aE (aC 3 .i64) pk (aa.aR h tr).length (aa.aR h tr) w0 h_) (hRv : ∀ w0 h_, Rv w0 h_ → aE (aC 3 .i64) pv v.length v w0 h_) (hf : aa.fz ⟨h, pl, tr⟩) (hvl : v.length = (aa.parts h.ar).toNat) (hvx : ∀ x ∈ v, 0 ≤ x ∧ x < 2 ^ h.dep.toNat) (h3 : h.ar = 3) (k : Nat) (hk0 : v.getD 0 0 = (k : Int)) (hkb : k < 100000000) (hk : ¬ pl.length / 3 ≤ k) : aA Tryz.prog 151 [.pointer (some ⟨bf, 0, none⟩), .slice pv v.length cv] [ai bf 90 [.int .i64 h.w, .int .i64 h.h, .int .i64 h.dep, .int .i64 h.ar, .bool h.ba, .slice pp pl.length cp, .slice pt tr.length ct, .slice pd nd cd, .slice pk (aa.aR h tr).length ck], Rk, Rv, R] (aF fun e G => e = .tuple #[.agg #[.int .u16 ((pl.drop (3 * k)).getD 0 0 * 257), .int .u16 ((pl.drop (3 * k)).getD 1 0 * 257), .int .u16 ((pl.drop (3 * k)).getD 2 0 * 257), .int .u16 (if k < tr.length then tr.getD k 0 * 257 else 65535)], .bool true] ∧ G = [ai bf 90 [.int .i64 h.w, .int .i64 h.h, .int .i64 h.dep, .int .i64 h.ar, .bool h.ba, .slice pp pl.length cp, .slice pt tr.length ct, .slice pd nd cd, .slice pk (aa.aR h tr).length ck], Rk, Rv, R]) := by
  refine (Nc) ?_
  intro w0 F
  have hde : aa.deep h.ar h.dep := by unfold aa.fz at hf; exact hf.1
  have hpc := aa.gg hde
  have hd := aa.gm hde
  have hUl : (v.map (aa.up h.dep)).length = v.length := List.length_map ..
  have hdi := aa.iT hd
  refine (Qt)<|(yB) ?_
  intro b4
  refine (Qe)<|(QW)<|(Qv)<|(Qc)<|(VO) ?_
  rw [show (aC 3 .i64).g v 0 = (k : Int) from hk0]
  refine aj (Bm h bf pp pl cp pt tr ct pd nd cd pk (aa.aR h tr).length ck R hP hT hcp hB hBt hpl htl k hk) V.NX  rfl (.cons ax (.cons dk .nil)) rfl ?_
  rintro _ _ ⟨rfl, rfl⟩
  refine (Q6)<|(Us)<|(Q3) ?_
  exact ag (dU V.ml rfl dJ rfl rfl) ⟨rfl, rfl⟩ (sub (ao (.cons bo (.cons bo (.cons dj .nil)))) bu)
set_option maxHeartbeats 4000000 in
theorem Dy (h : aa.Hd) (bf : Nat) (pp : Option Addr) (pl : List Int) (cp : Nat) (pt : Option Addr) (tr : List Int) (ct : Nat) (pd : Option Addr) (nd cd : Nat) (pk : Option Addr) (ck : Nat) (R : ad) (hP : ∀ w0 h, R w0 h → aE U5 pp pl.length pl w0 h) (hT : ∀ w0 h, R w0 h → aE U5 pt tr.length tr w0 h) (hcp : pl.length ≤ cp) (hB : af.an pl) (hBt : af.an tr) (hpl : pl.length < 500000000) (htl : tr.length < 500000000) (pv : Option Addr) (cv : Nat) (v : List Int) (Rk Rv : ad) (hRk : ∀ w0 h_, Rk w0 h_ → aE (aC 3 .i64) pk (aa.aR h tr).length (aa.aR h tr) w0 h_) (hRv : ∀ w0 h_, Rv w0 h_ → aE (aC 3 .i64) pv v.length v w0 h_) (hf : aa.fz ⟨h, pl, tr⟩) (hvl : v.length = (aa.parts h.ar).toNat) (hvx : ∀ x ∈ v, 0 ≤ x ∧ x < 2 ^ h.dep.toNat) (h3 : ¬ h.ar = 3) (c0 c1 c2 c3 : Int) (hpx : aa.fS ⟨h, pl, tr⟩ v = some [c0, c1, c2, c3]) : aA Tryz.prog 151 [.pointer (some ⟨bf, 0, none⟩), .slice pv v.length cv] [ai bf 90 [.int .i64 h.w, .int .i64 h.h, .int .i64 h.dep, .int .i64 h.ar, .bool h.ba, .slice pp pl.length cp, .slice pt tr.length ct, .slice pd nd cd, .slice pk (aa.aR h tr).length ck], Rk, Rv, R] (aF fun e G => e = .tuple #[.agg #[.int .u16 c0, .int .u16 c1, .int .u16 c2, .int .u16 c3], .bool true] ∧ G = [ai bf 90 [.int .i64 h.w, .int .i64 h.h, .int .i64 h.dep, .int .i64 h.ar, .bool h.ba, .slice pp pl.length cp, .slice pt tr.length ct, .slice pd nd cd, .slice pk (aa.aR h tr).length ck], Rk, Rv, R]) := by
  refine (Nc) ?_
  intro w0 F
  have hde : aa.deep h.ar h.dep := by unfold aa.fz at hf; exact hf.1
  have hpc := aa.gg hde
  have hd := aa.gm hde
  have hUl : (v.map (aa.up h.dep)).length = v.length := List.length_map ..
  have hdi := aa.iT hd
  refine (Qt)<|(yB) ?_
  intro b4
  refine (Qe)<|(QW)<|(QB) ?_
  refine rO TT 19 rfl<|iP (Row (aC 62 .u16) none 0 0 []) (Row.nil _ _ _) ?_
  rw [show ([] : List Int) = (v.map (aa.up h.dep)).take 0 from rfl]
  refine gN (fun (i : Nat) (ps : Option Addr) (cs : Nat) => [(0, .pointer (some ⟨bf, 0, none⟩)), (1, .slice pv v.length cv), (4, .pointer (some ⟨b4, 0, none⟩)), (6, .slice ps i cs), (25, .slice pv v.length cv), (26, .int .i64 (v.length : Int)), (27, .int .i64 (i : Int))]) (fun (i : Nat) (ps : Option Addr) (cs : Nat) => Row (aC 62 .u16) ps i cs ((v.map (aa.up h.dep)).take i) :: ai b4 68 [.int .u16 0, .int .u16 0, .int .u16 0, .int .u16 0] :: ai bf 90 [.int .i64 h.w, .int .i64 h.h, .int .i64 h.dep, .int .i64 h.ar, .bool h.ba, .slice pp pl.length cp, .slice pt tr.length ct, .slice pd nd cd, .slice pk (aa.aR h tr).length ck] :: Rk :: Rv :: R :: F) (fun (i : Nat) (ps : Option Addr) (cs : Nat) => i ≤ v.length) (fun (i : Nat) (ps : Option Addr) (cs : Nat) => v.length - i) (i3 (0) (none) (0) ?_ (iE (bP ln)) (sub (ao (mB .nil)) ak)) ?_
  ·
    exact Nat.zero_le _
  intro i ps cs
  rintro hi
  refine (Qm) ?_
  refine aD rfl (fun h28 => ?_) (fun h28 => ?_)
  ·
    refine (Qf) ?_
    have hvi : 0 ≤ ((aC 3 .i64).g v (i : Int)) ∧ ((aC 3 .i64).g v (i : Int)) < 2 ^ h.dep.toNat := hvx _ (aa.hI (by omega))
    refine (Qo) ?_
    refine oV (xI V.cH (by exact bK hRv jK))<|oV (xL V.s3 (by exact bK hRv jK))<|(Qe)<|(wL) ?_
    refine aj (NZ h.dep ((aC 3 .i64).g v (i : Int)) hd hvi) V.RE  rfl .nil rfl ?_
    rintro _ _ ⟨rfl, rfl⟩
    refine (Qe) ?_
    refine cY (aC 62 .u16) [(aa.up h.dep ((aC 3 .i64).g v (i : Int)))] V.hG V.EY rfl rfl rfl rfl rfl rfl ?_
    intro b43
    refine ew (c := (aC 62 .u16)) V.hG V.EY rfl rfl rfl rfl ax (own aB) (by omega) rfl ?_
    intro p44 c44
    refine (QG) ?_
    rw [show (v.map (aa.up h.dep)).take i ++ [aa.up h.dep ((aC 3 .i64).g v (i : Int))] = (v.map (aa.up h.dep)).take (i + 1) from aa.Bp (by omega)]
    exact j3 (i + 1) _ _ ⟨by omega, by omega⟩ (iE (bP ln)) (sub (ao (.cons ax (.cons ax (.cons ax (.cons ax (.cons ax .nil)))))) bu)
  ·
    refine (Qi) ?_
    obtain rfl : i = v.length := by omega
    rw [List.take_of_length_le (by omega)]
    refine (Q5) ?_
    refine iz (fun (al : Int) => [(0, .pointer (some ⟨bf, 0, none⟩)), (1, .slice pv v.length cv), (4, .pointer (some ⟨b4, 0, none⟩)), (6, .slice ps v.length cs), (11, .int .u16 al)]) (fun (al : Int) => Row (aC 62 .u16) ps v.length cs (v.map (aa.up h.dep)) :: ai b4 68 [.int .u16 0, .int .u16 0, .int .u16 0, .int .u16 0] :: ai bf 90 [.int .i64 h.w, .int .i64 h.h, .int .i64 h.dep, .int .i64 h.ar, .bool h.ba, .slice pp pl.length cp, .slice pt tr.length ct, .slice pd nd cd, .slice pk (aa.aR h tr).length ck] :: Rk :: Rv :: R :: F) (fun (al : Int) => al = (if h.ar = 4 ∨ h.ar = 6 then (v.map (aa.up h.dep)).getD ((v.map (aa.up h.dep)).length - 1) 0 else 65535)) ?_ ?_
    ·
      rcases ((by omega : h.ar = 4 ∨ (¬ h.ar = 4 ∧ h.ar = 6) ∨ (¬ h.ar = 4 ∧ ¬ h.ar = 6))) with a1 | ⟨a1, a2⟩ | ⟨a1, a2⟩
      ·
        refine (Qm)<|(wL)<|(Ni) ?_
        refine iD TT 16 rfl (by omega)<|(zX)<|(AQ)<|(Q6) ?_
        refine j1 (_) ?_ (bP ln) (sub (ao (mB .nil)) ak)
        (rw [if_pos (by omega), hUl]; exact gE (v.length - 1) (by omega))
      ·
        refine (Qm)<|(wL)<|(pH)<|(QZ)<|(wL)<|(Q0)<|(HN)<|(sY)<|(zX)<|(AQ)<|(Q6) ?_
        refine j1 (_) ?_ (bP ln) (sub (ao (mB .nil)) ak)
        (rw [if_pos (by omega), hUl]; exact gE (v.length - 1) (by omega))
      ·
        refine (Qm)<|(wL)<|(pH)<|(QZ)<|(wL)<|(Q0)<|(xz)<|(Q3) ?_
        refine j1 (_) ?_ (bP ln) (sub (ao (mB .nil)) ak)
        (rw [if_neg (by omega)]; done)
    ·
      intro al
      rintro hal
      refine iz (fun (al2 : Int) => [(0, .pointer (some ⟨bf, 0, none⟩)), (4, .pointer (some ⟨b4, 0, none⟩)), (6, .slice ps v.length cs), (11, .int .u16 al2)]) (fun (al2 : Int) => Row (aC 62 .u16) ps v.length cs (v.map (aa.up h.dep)) :: ai b4 68 [.int .u16 0, .int .u16 0, .int .u16 0, .int .u16 0] :: ai bf 90 [.int .i64 h.w, .int .i64 h.h, .int .i64 h.dep, .int .i64 h.ar, .bool h.ba, .slice pp pl.length cp, .slice pt tr.length ct, .slice pd nd cd, .slice pk (aa.aR h tr).length ck] :: Rk :: Rv :: R :: F) (fun (al2 : Int) => al2 = aa.p9 ⟨h, pl, tr⟩ v) ?_ ?_
      ·
        rcases ((by by_cases q : 0 < (aa.aR h tr).length; by_cases q2 : v = (aa.aR h tr); exact .inr (.inl ⟨q, q2⟩); exact .inr (.inr ⟨q, q2⟩); exact .inl q : ¬ 0 < (aa.aR h tr).length ∨ (0 < (aa.aR h tr).length ∧ v = (aa.aR h tr)) ∨ (0 < (aa.aR h tr).length ∧ ¬ v = (aa.aR h tr)))) with b1 | ⟨b1, b2⟩ | ⟨b1, b2⟩
        ·
          refine rL TT 5 rfl<|(z8)<|(HZ)<|(Qr)<|(QI) ?_
          refine j1 (_) ?_ (eg ln) (sub (ao (mB .nil)) ak)
          (unfold aa.p9; rw [if_neg (fun q => b1 q.1)]; exact hal)
        ·
          refine rL TT 5 rfl<|(z8)<|(HZ)<|(Qu)<|(QZ)<|(z8)<|(Q0) ?_
          refine aj (zQ pv v.length cv v rfl Rv hRv pk (aa.aR h tr).length ck (aa.aR h tr) rfl Rk hRk (by omega) true (decide_eq_true b2).symm) V.On  rfl (.cons iB (.cons dk .nil)) rfl ?_
          rintro _ _ ⟨rfl, rfl⟩
          refine (Qc) ?_
          refine j1 (_) ?_ (eg ln) (sub (.cons bo (.cons bo (.cons bo (.cons ax (aO .nil))))) ak)
          (unfold aa.p9; rw [if_pos ⟨b1, b2⟩]; done)
        ·
          refine rL TT 5 rfl<|(z8)<|(HZ)<|(Qu)<|(QZ)<|(z8)<|(Q0) ?_
          refine aj (zQ pv v.length cv v rfl Rv hRv pk (aa.aR h tr).length ck (aa.aR h tr) rfl Rk hRk (by omega) false (decide_eq_false b2).symm) V.On  rfl (.cons iB (.cons dk .nil)) rfl ?_
          rintro _ _ ⟨rfl, rfl⟩
          refine (Q3) ?_
          refine j1 (_) ?_ (eg ln) (sub (.cons bo (.cons bo (.cons bo (.cons ax (aO .nil))))) ak)
          (unfold aa.p9; rw [if_neg (fun q => b2 q.2)]; exact hal)
      ·
        intro al2
        rintro hal2
        rcases ((by omega : h.ar = 0 ∨ (¬ h.ar = 0 ∧ h.ar = 4) ∨ (¬ h.ar = 0 ∧ ¬ h.ar = 4))) with a1 | ⟨a1, a2⟩ | ⟨a1, a2⟩
        ·
          refine rC TT 7 rfl ?_
          refine oV (az V.s3 rfl dJ rfl) ?_
          refine oV (c9 (dz rfl rfl) a1) ?_
          refine rO TT 12 rfl ?_
          refine wN [pz 0 [] [6], pz 1 [0] [], pz 3 [1] [], pz 0 [] [6], pz 8 [3] [], pz 24 [4] [], pz 0 [] [6], pz 64 [6] [], pz 192 [7] [], pz 0 [] [11], pz 1023 [2, 5, 8, 9] [], pz 2047 [10] [4], pz 4095 [] []] [⟨fun y => Row (aC 62 .u16) ps v.length cs (v.map (aa.up h.dep)), none, none, [1, 2, 4, 5, 7, 8]⟩, ⟨fun y => ai b4 68 [.int .u16 0, .int .u16 0, .int .u16 0, .int .u16 0], none, some 11, []⟩, ⟨fun y => ai bf 90 [.int .i64 h.w, .int .i64 h.h, .int .i64 h.dep, .int .i64 h.ar, .bool h.ba, .slice pp pl.length cp, .slice pt tr.length ct, .slice pd nd cd, .slice pk (aa.aR h tr).length ck], none, none, []⟩, ⟨fun y => Rk, none, none, []⟩, ⟨fun y => Rv, none, none, []⟩, ⟨fun y => R, none, none, []⟩, ⟨fun y => ai b4 68 [.int .u16 ((aC 62 .u16).g (v.map (aa.up h.dep)) 0), .int .u16 ((aC 62 .u16).g (v.map (aa.up h.dep)) 0), .int .u16 ((aC 62 .u16).g (v.map (aa.up h.dep)) 0), .int .u16 al2], some 11, none, []⟩] F V.mixed ?_
          refine nM ?_
          refine nR (fun y FF hA => xI V.hG (own aB)) ?_
          refine nR (fun y FF hA => xL V.l9 (own aB)) ?_
          refine nM ?_
          refine nR (fun y FF hA => xI V.hG (own aB)) ?_
          refine nR (fun y FF hA => xL V.l9 (own aB)) ?_
          refine nM ?_
          refine nR (fun y FF hA => xI V.hG (own aB)) ?_
          refine nR (fun y FF hA => xL V.l9 (own aB)) ?_
          refine nM ?_
          refine nV (fun y hA L => jl V.rn V.wJ rfl (cs := [.int .u16 ((aC 62 .u16).g (v.map (aa.up h.dep)) 0), .int .u16 ((aC 62 .u16).g (v.map (aa.up h.dep)) 0), .int .u16 ((aC 62 .u16).g (v.map (aa.up h.dep)) 0), .int .u16 al2]) (by kernel_rfl)) ?_
          refine nE (fun y FF hA => de (bd V.ml rfl rfl (us := [_, _, _, _]) rfl rfl (by exact fO) (by exact Nat.le_of_ble_eq_true rfl) rfl) ⟨rfl, .refl _⟩) ?_
          refine nA ?_
          refine cQ ?_
          intro y hA
          clear hA
          refine bj ?_
          refine bD _ (.cons (d := 4) rfl (.cons (d := 5) rfl (.nil _))) ?_
          refine a7 (M := Row (aC 62 .u16) ps v.length cs (v.map (aa.up h.dep)) :: ai bf 90 [.int .i64 h.w, .int .i64 h.h, .int .i64 h.dep, .int .i64 h.ar, .bool h.ba, .slice pp pl.length cp, .slice pt tr.length ct, .slice pd nd cd, .slice pk (aa.aR h tr).length ck] :: Rk :: Rv :: R :: ai b4 68 [.int .u16 ((aC 62 .u16).g (v.map (aa.up h.dep)) 0), .int .u16 ((aC 62 .u16).g (v.map (aa.up h.dep)) 0), .int .u16 ((aC 62 .u16).g (v.map (aa.up h.dep)) 0), .int .u16 al2] :: F) (fun _ _ h => h) ?_
          refine a7 (sub .nil (.skip (.keep (.keep (.keep (.keep (.keep .refl))))))) ?_
          simp only [List.nil_append]
          refine (Q9) ?_
          obtain ⟨e0, e1, e2, e3⟩ := aa.vK ((aa.zh (f := ⟨h, pl, tr⟩) (v := v) (show h.ar = 0 ∨ h.ar = 4 from by omega)).symm.trans hpx)
          exact ag (dU V.ml rfl jK rfl rfl) ⟨by rw [← e0, ← e1, ← e2, ← e3, hal2]; rfl, rfl⟩ (sub (mf .nil) bu)
        ·
          refine rC TT 7 rfl ?_
          refine oV (az V.s3 rfl dJ rfl) ?_
          refine oV (bS (dz rfl rfl) a1) ?_
          refine rO TT 5 rfl ?_
          refine cN rfl ?_
          refine oV (az V.s3 rfl dJ rfl) ?_
          refine cN rfl ?_
          refine oV (c9 (dz rfl rfl) a2) ?_
          refine rO TT 5 rfl ?_
          refine wN [pz 0 [] [6], pz 1 [0] [], pz 3 [1] [], pz 0 [] [6], pz 8 [3] [], pz 24 [4] [], pz 0 [] [6], pz 64 [6] [], pz 192 [7] [], pz 0 [] [11], pz 1023 [2, 5, 8, 9] [], pz 2047 [10] [4], pz 4095 [] []] [⟨fun y => Row (aC 62 .u16) ps v.length cs (v.map (aa.up h.dep)), none, none, [1, 2, 4, 5, 7, 8]⟩, ⟨fun y => ai b4 68 [.int .u16 0, .int .u16 0, .int .u16 0, .int .u16 0], none, some 11, []⟩, ⟨fun y => ai bf 90 [.int .i64 h.w, .int .i64 h.h, .int .i64 h.dep, .int .i64 h.ar, .bool h.ba, .slice pp pl.length cp, .slice pt tr.length ct, .slice pd nd cd, .slice pk (aa.aR h tr).length ck], none, none, []⟩, ⟨fun y => Rk, none, none, []⟩, ⟨fun y => Rv, none, none, []⟩, ⟨fun y => R, none, none, []⟩, ⟨fun y => ai b4 68 [.int .u16 ((aC 62 .u16).g (v.map (aa.up h.dep)) 0), .int .u16 ((aC 62 .u16).g (v.map (aa.up h.dep)) 0), .int .u16 ((aC 62 .u16).g (v.map (aa.up h.dep)) 0), .int .u16 al2], some 11, none, []⟩] F V.mixed ?_
          refine nM ?_
          refine nR (fun y FF hA => xI V.hG (own aB)) ?_
          refine nR (fun y FF hA => xL V.l9 (own aB)) ?_
          refine nM ?_
          refine nR (fun y FF hA => xI V.hG (own aB)) ?_
          refine nR (fun y FF hA => xL V.l9 (own aB)) ?_
          refine nM ?_
          refine nR (fun y FF hA => xI V.hG (own aB)) ?_
          refine nR (fun y FF hA => xL V.l9 (own aB)) ?_
          refine nM ?_
          refine nV (fun y hA L => jl V.rn V.wJ rfl (cs := [.int .u16 ((aC 62 .u16).g (v.map (aa.up h.dep)) 0), .int .u16 ((aC 62 .u16).g (v.map (aa.up h.dep)) 0), .int .u16 ((aC 62 .u16).g (v.map (aa.up h.dep)) 0), .int .u16 al2]) (by kernel_rfl)) ?_
          refine nE (fun y FF hA => de (bd V.ml rfl rfl (us := [_, _, _, _]) rfl rfl (by exact fO) (by exact Nat.le_of_ble_eq_true rfl) rfl) ⟨rfl, .refl _⟩) ?_
          refine nA ?_
          refine cQ ?_
          intro y hA
          clear hA
          refine bj ?_
          refine bD _ (.cons (d := 4) rfl (.cons (d := 5) rfl (.nil _))) ?_
          refine a7 (M := Row (aC 62 .u16) ps v.length cs (v.map (aa.up h.dep)) :: ai bf 90 [.int .i64 h.w, .int .i64 h.h, .int .i64 h.dep, .int .i64 h.ar, .bool h.ba, .slice pp pl.length cp, .slice pt tr.length ct, .slice pd nd cd, .slice pk (aa.aR h tr).length ck] :: Rk :: Rv :: R :: ai b4 68 [.int .u16 ((aC 62 .u16).g (v.map (aa.up h.dep)) 0), .int .u16 ((aC 62 .u16).g (v.map (aa.up h.dep)) 0), .int .u16 ((aC 62 .u16).g (v.map (aa.up h.dep)) 0), .int .u16 al2] :: F) (fun _ _ h => h) ?_
          refine a7 (sub .nil (.skip (.keep (.keep (.keep (.keep (.keep .refl))))))) ?_
          simp only [List.nil_append]
          refine (Q9) ?_
          obtain ⟨e0, e1, e2, e3⟩ := aa.vK ((aa.zh (f := ⟨h, pl, tr⟩) (v := v) (show h.ar = 0 ∨ h.ar = 4 from by omega)).symm.trans hpx)
          exact ag (dU V.ml rfl jK rfl rfl) ⟨by rw [← e0, ← e1, ← e2, ← e3, hal2]; rfl, rfl⟩ (sub (mf .nil) bu)
        ·
          refine rC TT 7 rfl ?_
          refine oV (az V.s3 rfl dJ rfl) ?_
          refine oV (bS (dz rfl rfl) a1) ?_
          refine rO TT 5 rfl ?_
          refine cN rfl ?_
          refine oV (az V.s3 rfl dJ rfl) ?_
          refine cN rfl ?_
          refine oV (bS (dz rfl rfl) a2) ?_
          refine rO TT 7 rfl ?_
          refine wN [pz 0 [] [6], pz 1 [0] [], pz 3 [1] [], pz 0 [] [6], pz 8 [3] [], pz 24 [4] [], pz 0 [] [6], pz 64 [6] [], pz 192 [7] [], pz 0 [] [11], pz 1023 [2, 5, 8, 9] [], pz 2047 [10] [4], pz 4095 [] []] [⟨fun y => Row (aC 62 .u16) ps v.length cs (v.map (aa.up h.dep)), none, none, [1, 2, 4, 5, 7, 8]⟩, ⟨fun y => ai b4 68 [.int .u16 0, .int .u16 0, .int .u16 0, .int .u16 0], none, some 11, []⟩, ⟨fun y => ai bf 90 [.int .i64 h.w, .int .i64 h.h, .int .i64 h.dep, .int .i64 h.ar, .bool h.ba, .slice pp pl.length cp, .slice pt tr.length ct, .slice pd nd cd, .slice pk (aa.aR h tr).length ck], none, none, []⟩, ⟨fun y => Rk, none, none, []⟩, ⟨fun y => Rv, none, none, []⟩, ⟨fun y => R, none, none, []⟩, ⟨fun y => ai b4 68 [.int .u16 ((aC 62 .u16).g (v.map (aa.up h.dep)) 0), .int .u16 ((aC 62 .u16).g (v.map (aa.up h.dep)) 1), .int .u16 ((aC 62 .u16).g (v.map (aa.up h.dep)) 2), .int .u16 al2], some 11, none, []⟩] F V.mixed ?_
          refine nM ?_
          refine nR (fun y FF hA => xI V.hG (own aB)) ?_
          refine nR (fun y FF hA => xL V.l9 (own aB)) ?_
          refine nM ?_
          refine nR (fun y FF hA => xI V.hG (own aB)) ?_
          refine nR (fun y FF hA => xL V.l9 (own aB)) ?_
          refine nM ?_
          refine nR (fun y FF hA => xI V.hG (own aB)) ?_
          refine nR (fun y FF hA => xL V.l9 (own aB)) ?_
          refine nM ?_
          refine nV (fun y hA L => jl V.rn V.wJ rfl (cs := [.int .u16 ((aC 62 .u16).g (v.map (aa.up h.dep)) 0), .int .u16 ((aC 62 .u16).g (v.map (aa.up h.dep)) 1), .int .u16 ((aC 62 .u16).g (v.map (aa.up h.dep)) 2), .int .u16 al2]) (by kernel_rfl)) ?_
          refine nE (fun y FF hA => de (bd V.ml rfl rfl (us := [_, _, _, _]) rfl rfl (by exact fO) (by exact Nat.le_of_ble_eq_true rfl) rfl) ⟨rfl, .refl _⟩) ?_
          refine nA ?_
          refine cQ ?_
          intro y hA
          clear hA
          refine bj<|(VC) ?_
          refine a7 (M := Row (aC 62 .u16) ps v.length cs (v.map (aa.up h.dep)) :: ai bf 90 [.int .i64 h.w, .int .i64 h.h, .int .i64 h.dep, .int .i64 h.ar, .bool h.ba, .slice pp pl.length cp, .slice pt tr.length ct, .slice pd nd cd, .slice pk (aa.aR h tr).length ck] :: Rk :: Rv :: R :: ai b4 68 [.int .u16 ((aC 62 .u16).g (v.map (aa.up h.dep)) 0), .int .u16 ((aC 62 .u16).g (v.map (aa.up h.dep)) 1), .int .u16 ((aC 62 .u16).g (v.map (aa.up h.dep)) 2), .int .u16 al2] :: F) (fun _ _ h => h)<|(Y8) ?_
          simp only [List.nil_append]
          refine (Qa) ?_
          obtain ⟨e0, e1, e2, e3⟩ := aa.vK ((aa.JP (f := ⟨h, pl, tr⟩) (v := v) (show ¬ (h.ar = 0 ∨ h.ar = 4) from by omega) h3).symm.trans hpx)
          exact ag (dU V.ml rfl jK rfl rfl) ⟨by rw [← e0, ← e1, ← e2, ← e3, hal2]; rfl, rfl⟩ (sub (mf .nil) bu)
theorem GJ (h : aa.Hd) (bf : Nat) (pp : Option Addr) (pl : List Int) (cp : Nat) (pt : Option Addr) (tr : List Int) (ct : Nat) (pd : Option Addr) (nd cd : Nat) (pk : Option Addr) (ck : Nat) (R : ad) (hP : ∀ w0 h, R w0 h → aE U5 pp pl.length pl w0 h) (hT : ∀ w0 h, R w0 h → aE U5 pt tr.length tr w0 h) (hcp : pl.length ≤ cp) (hB : af.an pl) (hBt : af.an tr) (hpl : pl.length < 500000000) (htl : tr.length < 500000000) (pv : Option Addr) (cv : Nat) (v : List Int) (Rk Rv : ad) (hRk : ∀ w0 h_, Rk w0 h_ → aE (aC 3 .i64) pk (aa.aR h tr).length (aa.aR h tr) w0 h_) (hRv : ∀ w0 h_, Rv w0 h_ → aE (aC 3 .i64) pv v.length v w0 h_) (hf : aa.fz ⟨h, pl, tr⟩) (hvl : v.length = (aa.parts h.ar).toNat) (hvx : ∀ x ∈ v, 0 ≤ x ∧ x < 2 ^ h.dep.toNat) (hk2 : v.getD 0 0 < 100000000) (hpx : aa.fS ⟨h, pl, tr⟩ v = none) : aA Tryz.prog 151 [.pointer (some ⟨bf, 0, none⟩), .slice pv v.length cv] [ai bf 90 [.int .i64 h.w, .int .i64 h.h, .int .i64 h.dep, .int .i64 h.ar, .bool h.ba, .slice pp pl.length cp, .slice pt tr.length ct, .slice pd nd cd, .slice pk (aa.aR h tr).length ck], Rk, Rv, R] (aF fun e G => e = .tuple #[.agg #[.int .u16 0, .int .u16 0, .int .u16 0, .int .u16 0], .bool false] ∧ G = [ai bf 90 [.int .i64 h.w, .int .i64 h.h, .int .i64 h.dep, .int .i64 h.ar, .bool h.ba, .slice pp pl.length cp, .slice pt tr.length ct, .slice pd nd cd, .slice pk (aa.aR h tr).length ck], Rk, Rv, R]) := by
  by_cases h3 : h.ar = 3
  · have hx := hvx (v.getD 0 0) (aa.hI (by have := aa.gg (c := h.ar) (d := h.dep) (by unfold aa.fz at hf; exact hf.1); omega))
    obtain ⟨k, hk⟩ : ∃ k : Nat, v.getD 0 0 = (k : Int) := ⟨(v.getD 0 0).toNat, by omega⟩
    rw [aa.yu h3, hk] at hpx
    refine EZ h bf pp pl cp pt tr ct pd nd cd pk ck R hP hT hcp hB hBt hpl htl pv cv v Rk Rv hRk hRv hf hvl hvx h3 k hk (by omega)<|Classical.not_not.1 fun q => ?_
    rw [show ((k : Int)).toNat = k from rfl, aa.E4 q] at hpx
    cases hpx
  · rw [aa.tA h3] at hpx; cases hpx
theorem GB (h : aa.Hd) (bf : Nat) (pp : Option Addr) (pl : List Int) (cp : Nat) (pt : Option Addr) (tr : List Int) (ct : Nat) (pd : Option Addr) (nd cd : Nat) (pk : Option Addr) (ck : Nat) (R : ad) (hP : ∀ w0 h, R w0 h → aE U5 pp pl.length pl w0 h) (hT : ∀ w0 h, R w0 h → aE U5 pt tr.length tr w0 h) (hcp : pl.length ≤ cp) (hB : af.an pl) (hBt : af.an tr) (hpl : pl.length < 500000000) (htl : tr.length < 500000000) (pv : Option Addr) (cv : Nat) (v : List Int) (Rk Rv : ad) (hRk : ∀ w0 h_, Rk w0 h_ → aE (aC 3 .i64) pk (aa.aR h tr).length (aa.aR h tr) w0 h_) (hRv : ∀ w0 h_, Rv w0 h_ → aE (aC 3 .i64) pv v.length v w0 h_) (hf : aa.fz ⟨h, pl, tr⟩) (hvl : v.length = (aa.parts h.ar).toNat) (hvx : ∀ x ∈ v, 0 ≤ x ∧ x < 2 ^ h.dep.toNat) (hk2 : v.getD 0 0 < 100000000) (c0 c1 c2 c3 : Int) (hpx : aa.fS ⟨h, pl, tr⟩ v = some [c0, c1, c2, c3]) : aA Tryz.prog 151 [.pointer (some ⟨bf, 0, none⟩), .slice pv v.length cv] [ai bf 90 [.int .i64 h.w, .int .i64 h.h, .int .i64 h.dep, .int .i64 h.ar, .bool h.ba, .slice pp pl.length cp, .slice pt tr.length ct, .slice pd nd cd, .slice pk (aa.aR h tr).length ck], Rk, Rv, R] (aF fun e G => e = .tuple #[.agg #[.int .u16 c0, .int .u16 c1, .int .u16 c2, .int .u16 c3], .bool true] ∧ G = [ai bf 90 [.int .i64 h.w, .int .i64 h.h, .int .i64 h.dep, .int .i64 h.ar, .bool h.ba, .slice pp pl.length cp, .slice pt tr.length ct, .slice pd nd cd, .slice pk (aa.aR h tr).length ck], Rk, Rv, R]) := by
  by_cases h3 : h.ar = 3
  · have hx := hvx (v.getD 0 0) (aa.hI (by have := aa.gg (c := h.ar) (d := h.dep) (by unfold aa.fz at hf; exact hf.1); omega))
    obtain ⟨k, hk⟩ : ∃ k : Nat, v.getD 0 0 = (k : Int) := ⟨(v.getD 0 0).toNat, by omega⟩
    rw [aa.yu h3, hk, show ((k : Int)).toNat = k from rfl] at hpx
    have q : ¬ pl.length / 3 ≤ k := fun q => by rw [aa.Ru q] at hpx; cases hpx
    rw [aa.E4 q] at hpx
    obtain ⟨rfl, rfl, rfl, rfl⟩ := aa.vK hpx
    exact ED h bf pp pl cp pt tr ct pd nd cd pk ck R hP hT hcp hB hBt hpl htl pv cv v Rk Rv hRk hRv hf hvl hvx h3 k hk (by omega) q
  · exact Dy h bf pp pl cp pt tr ct pd nd cd pk ck R hP hT hcp hB hBt hpl htl pv cv v Rk Rv hRk hRv hf hvl hvx h3 c0 c1 c2 c3 hpx
end Go.Proofs.YtmaiakpjgomnpaaGreat
namespace Go.Proofs.YtmaiakpjgomnpaaGreat
open Go.Sl 
attribute [local irreducible] af.an aa.off aa.o9 aa.ly aa.gz aa.gp aa.iL aa.eB aa.iK aa.WL aa.qY
set_option maxHeartbeats 1000000 in
theorem BK (a : Int) (ha : -255 ≤ a ∧ a ≤ 510) (y : Int) (hy : 0 ≤ y ∧ y < 256) : aA Tryz.prog 163 [.int .i64 a, .int .i64 y] [] (aF fun v G => v = .int .i64 (aa.off a y) ∧ G = []) := by
 refine au [(0, _), (1, _)] Tryz.func163 rfl Tryz.ntmps163 rfl rfl ?_
 intro w0 F
 refine DI TT 13 rfl (by omega)<|(Ve)<|(Q8) ?_
 exact ag (av rfl) ⟨rfl, rfl⟩ (sub .nil ak)
set_option maxHeartbeats 1000000 in
theorem ye (a : Int) (ha : -255 ≤ a ∧ a ≤ 510) (y : Int) (hy : 0 ≤ y ∧ y < 256) : aA Tryz.prog 130 [.int .i64 a, .int .u8 y] [] (aF fun v G => v = .int .i64 (aa.off a y) ∧ G = []) := by
 refine au [(0, _), (1, _)] Tryz.func130 rfl Tryz.ntmps130 rfl rfl ?_
 intro w0 F
 refine (QV)<|(QN)<|(pS)<|(QN)<|(pS)<|(Ve)<|(Q8) ?_
 exact ag (av rfl) ⟨rfl, rfl⟩ (sub .nil ak)
set_option maxHeartbeats 1000000 in
theorem JB (x : Int) (hx : 0 ≤ x ∧ x < 256) (y : Int) (hy : 0 ≤ y ∧ y < 256) (z : Int) (hz : 0 ≤ z ∧ z < 256) : aA Tryz.prog 165 [.int .u8 x, .int .u8 y, .int .u8 z] [] (aF fun v G => v = .int .u8 (aa.o9 x y z) ∧ G = []) := by
 refine au [(0, _), (1, _), (2, _)] Tryz.func165 rfl Tryz.ntmps165 rfl rfl ?_
 intro w0 F
 refine (QH)<|(QN)<|(Q7)<|(QN)<|(Q7)<|(QN)<|(Q3) ?_
 rcases (aa.OQ x y z) with ⟨q1, q2, hs⟩ | ⟨q1, q2, q3, hs⟩ | ⟨q1, q2, q3, hs⟩ | ⟨q1, q3, hs⟩ | ⟨q1, q3, hs⟩
 ·refine (EJ)<|(vn) ?_
  rintro _ _ ⟨rfl, rfl⟩
  refine (Q6)<|(tM) ?_
  rintro _ _ ⟨rfl, rfl⟩
  refine (Ao)<|(Qd)<|(vn) ?_
  rintro _ _ ⟨rfl, rfl⟩
  refine (Qj)<|(wY) ?_
  rintro _ _ ⟨rfl, rfl⟩
  refine (Q0) ?_
  refine oV (c9 (fZ rfl rfl) q2)<|(QK) ?_
  exact ag (av rfl) ⟨congrArg (Value.int .u8) hs.symm, rfl⟩ (sub .nil ak)
 ·refine (EJ)<|(vn) ?_
  rintro _ _ ⟨rfl, rfl⟩
  refine (Q6)<|(tM) ?_
  rintro _ _ ⟨rfl, rfl⟩
  refine (Ao)<|(Qd)<|(vn) ?_
  rintro _ _ ⟨rfl, rfl⟩
  refine (Qj)<|(wY) ?_
  rintro _ _ ⟨rfl, rfl⟩
  refine (Q0)<|(Ix)<|(Qn)<|(tM) ?_
  rintro _ _ ⟨rfl, rfl⟩
  refine (Q6)<|(wY) ?_
  rintro _ _ ⟨rfl, rfl⟩
  refine (HI)<|(Qq) ?_
  exact ag (av rfl) ⟨congrArg (Value.int .u8) hs.symm, rfl⟩ (sub .nil ak)
 ·refine (EJ)<|(vn) ?_
  rintro _ _ ⟨rfl, rfl⟩
  refine (Q6)<|(tM) ?_
  rintro _ _ ⟨rfl, rfl⟩
  refine (Ao)<|(Qd)<|(vn) ?_
  rintro _ _ ⟨rfl, rfl⟩
  refine (Qj)<|(wY) ?_
  rintro _ _ ⟨rfl, rfl⟩
  refine (Q0)<|(Ix)<|(Qn)<|(tM) ?_
  rintro _ _ ⟨rfl, rfl⟩
  refine (Q6)<|(wY) ?_
  rintro _ _ ⟨rfl, rfl⟩
  refine (Ii)<|(QK) ?_
  exact ag (av rfl) ⟨congrArg (Value.int .u8) hs.symm, rfl⟩ (sub .nil ak)
 ·refine (EJ)<|(vn) ?_
  rintro _ _ ⟨rfl, rfl⟩
  refine (Q6)<|(tM) ?_
  rintro _ _ ⟨rfl, rfl⟩
  refine (IW) ?_
  refine rO TT 17 rfl<|(tM) ?_
  rintro _ _ ⟨rfl, rfl⟩
  refine (Q6)<|(wY) ?_
  rintro _ _ ⟨rfl, rfl⟩
  refine (HI)<|(Qq) ?_
  exact ag (av rfl) ⟨congrArg (Value.int .u8) hs.symm, rfl⟩ (sub .nil ak)
 ·refine (EJ)<|(vn) ?_
  rintro _ _ ⟨rfl, rfl⟩
  refine (Q6)<|(tM) ?_
  rintro _ _ ⟨rfl, rfl⟩
  refine (IW) ?_
  refine rO TT 17 rfl<|(tM) ?_
  rintro _ _ ⟨rfl, rfl⟩
  refine (Q6)<|(wY) ?_
  rintro _ _ ⟨rfl, rfl⟩
  refine (Ii)<|(QK) ?_
  exact ag (av rfl) ⟨congrArg (Value.int .u8) hs.symm, rfl⟩ (sub .nil ak)
set_option maxHeartbeats 1000000 in
theorem Kz (x : Int) (hx : 0 ≤ x ∧ x < 256) (y : Int) (hy : 0 ≤ y ∧ y < 256) (z : Int) (hz : 0 ≤ z ∧ z < 256) : aA Tryz.prog 95 [.int .u8 x, .int .u8 y, .int .u8 z] [] (aF fun v G => v = .int .u8 (aa.o9 x y z) ∧ G = []) := by
 refine au [(0, _), (1, _), (2, _)] Tryz.func95 rfl Tryz.ntmps95 rfl rfl ?_
 intro w0 F
 refine (QH)<|(QN)<|(Q7)<|(QN)<|(pS)<|(QN)<|(ri) ?_
 rcases (aa.OQ x y z) with ⟨q1, q2, hs⟩ | ⟨q1, q2, q3, hs⟩ | ⟨q1, q2, q3, hs⟩ | ⟨q1, q3, hs⟩ | ⟨q1, q3, hs⟩
 ·refine (Q5)<|(EC) ?_
  rintro _ _ ⟨rfl, rfl⟩
  refine (Q6)<|(Cz) ?_
  rintro _ _ ⟨rfl, rfl⟩
  refine (Q6)<|(C1) ?_
  rintro _ _ ⟨rfl, rfl⟩
  refine (Qp)<|(Ao)<|(Qd) ?_
  refine oV (c9 (fZ rfl rfl) q2)<|(QK) ?_
  exact ag (av rfl) ⟨congrArg (Value.int .u8) hs.symm, rfl⟩ (sub .nil ak)
 ·refine (Q5)<|(EC) ?_
  rintro _ _ ⟨rfl, rfl⟩
  refine (Q6)<|(Cz) ?_
  rintro _ _ ⟨rfl, rfl⟩
  refine (Q6)<|(C1) ?_
  rintro _ _ ⟨rfl, rfl⟩
  refine (Qp)<|(Ao)<|(Qd)<|(Ix)<|(Qn)<|(HI)<|(Qq) ?_
  exact ag (av rfl) ⟨congrArg (Value.int .u8) hs.symm, rfl⟩ (sub .nil ak)
 ·refine (Q5)<|(EC) ?_
  rintro _ _ ⟨rfl, rfl⟩
  refine (Q6)<|(Cz) ?_
  rintro _ _ ⟨rfl, rfl⟩
  refine (Q6)<|(C1) ?_
  rintro _ _ ⟨rfl, rfl⟩
  refine (Qp)<|(Ao)<|(Qd)<|(Ix)<|(Qn)<|(Ii)<|(QK) ?_
  exact ag (av rfl) ⟨congrArg (Value.int .u8) hs.symm, rfl⟩ (sub .nil ak)
 ·refine (Q5)<|(EC) ?_
  rintro _ _ ⟨rfl, rfl⟩
  refine (Q6)<|(Cz) ?_
  rintro _ _ ⟨rfl, rfl⟩
  refine (Q6)<|(C1) ?_
  rintro _ _ ⟨rfl, rfl⟩
  refine (Qp)<|(IW)<|(Qq)<|(HI)<|(Qq) ?_
  exact ag (av rfl) ⟨congrArg (Value.int .u8) hs.symm, rfl⟩ (sub .nil ak)
 ·refine (Q5)<|(EC) ?_
  rintro _ _ ⟨rfl, rfl⟩
  refine (Q6)<|(Cz) ?_
  rintro _ _ ⟨rfl, rfl⟩
  refine (Q6)<|(C1) ?_
  rintro _ _ ⟨rfl, rfl⟩
  refine (Qp)<|(IW)<|(Qq)<|(Ii)<|(QK) ?_
  exact ag (av rfl) ⟨congrArg (Value.int .u8) hs.symm, rfl⟩ (sub .nil ak)
set_option maxHeartbeats 1000000 in
theorem GH (p : Option Addr) (c n : Nat) (L : List Int) (R : ad) (hR : ∀ w0 h, R w0 h → aE U5 p n L w0 h) (hn : L.length = n) (hB : af.an L) (j : Int) : aA Tryz.prog 164 [.slice p n c, .int .i64 j] [R] (aF fun v G => v = .int .u8 (aa.qY L j) ∧ G = [R]) := by
 refine au [(0, _), (1, _)] Tryz.func164 rfl Tryz.ntmps164 rfl rfl ?_
 intro w0 F
 refine (QP) ?_
 rcases (aa.XD L j) with ⟨q1, hs⟩ | ⟨q1, q2, hs⟩ | ⟨q1, q2, hs⟩
 ·refine (Q5)<|(QY) ?_
  exact rO TT 16 rfl<|ag (av rfl) ⟨congrArg (Value.int .u8) hs.symm, rfl⟩ (sub (ao .nil) ak)
 ·refine (Q5)<|(QE)<|(QF)<|(QO)<|(Qp) ?_
  exact ag (av rfl) ⟨congrArg (Value.int .u8) hs.symm, rfl⟩ (sub (ao .nil) ak)
 ·refine (Q5)<|(QE)<|(QF)<|(oO)<|(Qe)<|(HM)<|(Ip)<|(Q8) ?_
  exact ag (av rfl) ⟨congrArg (Value.int .u8) hs.symm, rfl⟩ (sub (ao .nil) ak)
set_option maxHeartbeats 1000000 in
theorem O8 (kind : Int) (p1 : Option Addr) (c1 n1 : Nat) (L1 : List Int) (R1 : ad) (hR1 : ∀ w0 h, R1 w0 h → aE U5 p1 n1 L1 w0 h) (hn1 : L1.length = n1) (hB1 : af.an L1) (p2 : Option Addr) (c2 n2 : Nat) (L2 : List Int) (R2 : ad) (hR2 : ∀ w0 h, R2 w0 h → aE U5 p2 n2 L2 w0 h) (hn2 : L2.length = n2) (hB2 : af.an L2) (i back : Nat) (hi : i < 500000000) (hbk : back ≤ 8) : aA Tryz.prog 141 [.int .i64 kind, .slice p1 n1 c1, .slice p2 n2 c2, .int .i64 (back : Int), .int .i64 (i : Int)] [R1, R2] (aF fun v G => v = .int .u8 (aa.ly kind (aa.gz L1 i back) (L2.getD i 0) (aa.gz L2 i back)) ∧ G = [R1, R2]) := by
 refine au [(0, _), (1, _), (2, _), (3, _), (4, _)] Tryz.func141 rfl Tryz.ntmps141 rfl rfl ?_
 intro w0 F
 have ha := aa.vM hB1 i back
 have hb : 0 ≤ (L2.getD i 0) ∧ (L2.getD i 0) < 256 := hB2.get i
 have hd := aa.vM hB2 i back
 refine DI TT 11 rfl (by omega)<|aj (GH p1 c1 n1 L1 R1 hR1 hn1 hB1 ((i : Int) - (back : Int))) V.FQ  rfl (ao .nil) rfl ?_
 rintro _ _ ⟨rfl, rfl⟩
 rw [aa.Fk]
 refine (Q6) ?_
 refine aj (GH p2 c2 n2 L2 R2 hR2 hn2 hB2 (i : Int)) V.FQ  rfl (.cons ax .nil) rfl ?_
 rintro _ _ ⟨rfl, rfl⟩
 rw [aa.Kb]
 refine (ri) ?_
 refine aj (GH p2 c2 n2 L2 R2 hR2 hn2 hB2 ((i : Int) - (back : Int))) V.FQ  rfl (ao .nil) rfl ?_
 rintro _ _ ⟨rfl, rfl⟩
 rw [aa.Fk]
 refine (Q3) ?_
 rcases (aa.OW kind (aa.gz L1 i back) (L2.getD i 0) (aa.gz L2 i back)) with ⟨q1, hs⟩ | ⟨q1, q2, hs⟩ | ⟨q1, q2, q3, hs⟩ | ⟨q1, q2, q3, q4, hs⟩ | ⟨q1, q2, q3, q4, hs⟩
 ·refine (kB)<|(Qv)<|(Qq) ?_
  exact ag (av rfl) ⟨congrArg (Value.int .u8) hs.symm, rfl⟩ (sub (.cons ax (ao .nil)) ak)
 ·refine (kB) ?_
  refine (QB) ?_
  refine (Q1) ?_
  refine (Qv) ?_
  refine (Qq) ?_
  exact ag (av rfl) ⟨congrArg (Value.int .u8) hs.symm, rfl⟩ (sub (.cons ax (ao .nil)) ak)
 ·refine (kB) ?_
  refine (QB) ?_
  refine (Q1) ?_
  refine (QB) ?_
  refine (Q1) ?_
  refine (Qv) ?_
  refine (Qc) ?_
  refine (QN) ?_
  refine (Q7) ?_
  refine (QN) ?_
  refine iD TT 1 rfl (by omega) ?_
  refine (U1) ?_
  refine (nF) ?_
  refine (Q1) ?_
  exact ag (av rfl) ⟨congrArg (Value.int .u8) hs.symm, rfl⟩ (sub (.cons ax (ao .nil)) ak)
 ·refine (kB) ?_
  refine (QB) ?_
  refine (Q1) ?_
  refine (QB) ?_
  refine (Q1) ?_
  refine (QB) ?_
  refine (Q1) ?_
  refine (Qv) ?_
  refine (Qn) ?_
  refine aj (JB (aa.gz L1 i back) ha (L2.getD i 0) hb (aa.gz L2 i back) hd) V.WA  rfl .nil rfl ?_
  rintro _ _ ⟨rfl, rfl⟩
  refine (Q1) ?_
  exact ag (av rfl) ⟨congrArg (Value.int .u8) hs.symm, rfl⟩ (sub (.cons ax (ao .nil)) ak)
 ·refine (kB) ?_
  refine (QB) ?_
  refine (Q1) ?_
  refine (QB) ?_
  refine (Q1) ?_
  refine (QB) ?_
  refine (Q1) ?_
  refine (QB) ?_
  refine (Qq) ?_
  exact ag (av rfl) ⟨congrArg (Value.int .u8) hs.symm, rfl⟩ (sub (.cons ax (ao .nil)) ak)
set_option maxHeartbeats 1000000 in
theorem ME (kind : Int) (p1 : Option Addr) (c1 n1 : Nat) (L1 : List Int) (R1 : ad) (hR1 : ∀ w0 h, R1 w0 h → aE U5 p1 n1 L1 w0 h) (hn1 : L1.length = n1) (hB1 : af.an L1) (p2 : Option Addr) (c2 n2 : Nat) (L2 : List Int) (R2 : ad) (hR2 : ∀ w0 h, R2 w0 h → aE U5 p2 n2 L2 w0 h) (hn2 : L2.length = n2) (hB2 : af.an L2) (i back : Nat) (hi : i < 500000000) (hbk : back ≤ 8) (hi1 : i < n1) (hi2 : n2 = 0 ∨ i < n2) : aA Tryz.prog 61 [.int .i64 kind, .slice p1 n1 c1, .slice p2 n2 c2, .int .i64 (i : Int), .int .i64 (back : Int)] [R1, R2] (aF fun v G => v = .int .u8 (aa.ly kind (aa.gz L1 i back) (L2.getD i 0) (aa.gz L2 i back)) ∧ G = [R1, R2]) := by
 refine au [(0, _), (1, _), (2, _), (3, _), (4, _)] Tryz.func61 rfl Tryz.ntmps61 rfl rfl ?_
 intro w0 F
 have ha := aa.vM hB1 i back
 have hb : 0 ≤ (L2.getD i 0) ∧ (L2.getD i 0) < 256 := hB2.get i
 have hd := aa.vM hB2 i back
 refine rT TT 12 rfl ?_
 refine iz (fun (u : Unit) => [(0, .int .i64 kind), (2, .slice p2 n2 c2), (3, .int .i64 (i : Int)), (4, .int .i64 (back : Int)), (11, .int .u8 (aa.gz L1 i back)), (12, .int .u8 0), (13, .int .u8 0)]) (fun (u : Unit) => R1 :: R2 :: F) (fun (u : Unit) => True) ?_ ?_
 ·rcases (Nat.lt_or_ge i back) with hlt | hlt
  ·refine rL TT 4 rfl<|(oO)<|(Q8) ?_
   (rw [aa.I7 (by assumption)]; exact j1 () trivial (iE (bP ln)) (sub (aO .nil) ak))
  ·refine rL TT 4 rfl<|(QO)<|(QG) ?_
   refine oV (xI V.bE (by exact bK hR1 aB))<|oV (xL V.s5 (by exact bK hR1 aB))<|(Q6) ?_
   (rw [show (aa.gz L1 i back) = U5.g L1 ((i : Int) - (back : Int)) from aa.Ie hlt]; exact j1 () trivial (iE (bP ln)) (sub (aO .nil) ak))
 ·intro u
  rintro -
  refine iz (fun (u : Unit) => [(0, .int .i64 kind), (11, .int .u8 (aa.gz L1 i back)), (12, .int .u8 (L2.getD i 0)), (13, .int .u8 (aa.gz L2 i back))]) (fun (u : Unit) => R1 :: R2 :: F) (fun (u : Unit) => True) ?_ ?_
  ·rcases (Nat.eq_zero_or_pos n2) with hz | hz
   ·refine rL TT 4 rfl<|(Qr)<|(Q8) ?_
    (obtain rfl : L2 = [] := List.length_eq_zero_iff.1 (by omega); rw [aa.Mt]; exact j1 () trivial (eg ln) (sub (aO .nil) ak))
   ·refine rL TT 4 rfl<|(Qu)<|(Qc)<|(Vh)<|(Qg) ?_
    rcases (Nat.lt_or_ge i back) with hlt | hlt
    ·refine (Q5)<|(oO)<|(Q8) ?_
     (rw [aa.I7 (l := L2) (by assumption)]; exact j1 () trivial (eg ln) (sub (aO .nil) ak))
    ·refine (Q5)<|(QO)<|(QG)<|(Vh)<|(Q6) ?_
     (rw [show (aa.gz L2 i back) = U5.g L2 ((i : Int) - (back : Int)) from aa.Ie (by assumption)]; exact j1 () trivial (eg ln) (sub (aO .nil) ak))
  ·intro u
   rintro -
   rcases (aa.OW kind (aa.gz L1 i back) (L2.getD i 0) (aa.gz L2 i back)) with ⟨q1, hs⟩ | ⟨q1, q2, hs⟩ | ⟨q1, q2, q3, hs⟩ | ⟨q1, q2, q3, q4, hs⟩ | ⟨q1, q2, q3, q4, hs⟩
   ·refine (kB)<|(Qv)<|(Qq) ?_
    exact ag (av rfl) ⟨congrArg (Value.int .u8) hs.symm, rfl⟩ (sub (aO .nil) ak)
   ·refine (kB) ?_
    refine (QB) ?_
    refine (Q1) ?_
    refine (Qv) ?_
    refine (Qq) ?_
    exact ag (av rfl) ⟨congrArg (Value.int .u8) hs.symm, rfl⟩ (sub (aO .nil) ak)
   ·refine (kB) ?_
    refine (QB) ?_
    refine (Q1) ?_
    refine (QB) ?_
    refine (Q1) ?_
    refine (Qv) ?_
    refine (Qc) ?_
    refine (QN) ?_
    refine (Q7) ?_
    refine (QN) ?_
    refine iD TT 1 rfl (by omega) ?_
    refine (U1) ?_
    refine (nF) ?_
    refine (Q1) ?_
    exact ag (av rfl) ⟨congrArg (Value.int .u8) hs.symm, rfl⟩ (sub (aO .nil) ak)
   ·refine (kB) ?_
    refine (QB) ?_
    refine (Q1) ?_
    refine (QB) ?_
    refine (Q1) ?_
    refine (QB) ?_
    refine (Q1) ?_
    refine (Qv) ?_
    refine (Qn) ?_
    refine aj (Kz (aa.gz L1 i back) ha (L2.getD i 0) hb (aa.gz L2 i back) hd) V.YP  rfl .nil rfl ?_
    rintro _ _ ⟨rfl, rfl⟩
    refine (Q1) ?_
    exact ag (av rfl) ⟨congrArg (Value.int .u8) hs.symm, rfl⟩ (sub (aO .nil) ak)
   ·refine (kB) ?_
    refine (QB) ?_
    refine (Q1) ?_
    refine (QB) ?_
    refine (Q1) ?_
    refine (QB) ?_
    refine (Q1) ?_
    refine (QB) ?_
    refine (Qq) ?_
    exact ag (av rfl) ⟨congrArg (Value.int .u8) hs.symm, rfl⟩ (sub (aO .nil) ak)
set_option maxHeartbeats 1000000 in
theorem H2 (kind : Int) (p1 : Option Addr) (c1 n1 : Nat) (L1 : List Int) (R1 : ad) (hR1 : ∀ w0 h, R1 w0 h → aE U5 p1 n1 L1 w0 h) (hn1 : L1.length = n1) (hB1 : af.an L1) (p2 : Option Addr) (c2 n2 : Nat) (L2 : List Int) (R2 : ad) (hR2 : ∀ w0 h, R2 w0 h → aE U5 p2 n2 L2 w0 h) (hn2 : L2.length = n2) (hB2 : af.an L2) (back : Nat) (hbk : 1 ≤ back ∧ back ≤ 8) (h2 : n2 = 0 ∨ n2 = n1) (hk : 0 ≤ kind) (hn1s : n1 < 500000000) (t : Bool) (ht : t = decide (kind < 5)) : aA Tryz.prog 140 [.int .i64 kind, .slice p1 n1 c1, .slice p2 n2 c2, .int .i64 (back : Int)] [R1, R2] (aF fun v G => v = .bool t ∧ G = [R1, R2]) := by
 refine au [(0, _), (1, _), (2, _), (3, _)] Tryz.func140 rfl Tryz.ntmps140 rfl rfl ?_
 intro w0 F
 refine (QP) ?_
 rcases ((by by_cases h : kind < 5; exact (Nat.eq_zero_or_pos n2).elim (fun q => .inr (.inl ⟨h, q⟩)) (fun q => .inr (.inr ⟨h, q⟩)); exact .inl h : ¬ kind < 5 ∨ (kind < 5 ∧ n2 = 0) ∨ (kind < 5 ∧ 0 < n2))) with hq | ⟨hq, hz⟩ | ⟨hq, hz⟩
 ·refine (Q4)<|(QO)<|(Qj) ?_
  refine oV (bS (dR rfl rfl) hq)<|rO TT 25 rfl ?_
  (obtain rfl : t = false := ht.trans (decide_eq_false hq); exact ag (G := [R1, R2]) (av rfl) ⟨rfl, rfl⟩ (sub (aO .nil) ak))
 ·refine (Q4)<|(QO)<|(Qj)<|(HT)<|(Qd)<|(QO)<|(Qd)<|(xY)<|(QF)<|(Qv)<|(QI) ?_
  (obtain rfl : t = true := ht.trans (decide_eq_true hq); exact ag (G := [R1, R2]) (av rfl) ⟨rfl, rfl⟩ (sub (aO .nil) ak))
 ·refine (Q4)<|(QO)<|(Qj)<|(HT)<|(Qd)<|(QO)<|(Qd)<|(xY)<|(QF)<|(QB)<|(QZ)<|(Qv)<|(Q1) ?_
  (obtain rfl : t = true := ht.trans (decide_eq_true hq); exact ag (G := [R1, R2]) (av rfl) ⟨rfl, rfl⟩ (sub (aO .nil) ak))
set_option maxHeartbeats 2000000 in
theorem O9 (kind : Int) (p1 : Option Addr) (c1 n1 : Nat) (L1 : List Int) (R1 : ad) (hR1 : ∀ w0 h, R1 w0 h → aE U5 p1 n1 L1 w0 h) (hn1 : L1.length = n1) (hB1 : af.an L1) (p2 : Option Addr) (c2 n2 : Nat) (L2 : List Int) (R2 : ad) (hR2 : ∀ w0 h, R2 w0 h → aE U5 p2 n2 L2 w0 h) (hn2 : L2.length = n2) (hB2 : af.an L2) (back : Nat) (hbk : 1 ≤ back ∧ back ≤ 8) (h2 : n2 = 0 ∨ n2 = n1) (hk : 0 ≤ kind) (hn1s : n1 < 500000000) : aA Tryz.prog 120 [.int .i64 kind, .slice p1 n1 c1, .slice p2 n2 c2, .int .i64 (back : Int)] [R1, R2] (aF fun v G => (4 < kind ∧ v = .tuple #[.slice none 0 0, .bool false] ∧ G = [R1, R2]) ∨ (¬ 4 < kind ∧ ∃ q cq, v = .tuple #[.slice q n1 cq, .bool true] ∧ G = [Row U5 q n1 cq (aa.eB kind L1 L2 back), R1, R2])) := by
 refine au [(0, _), (1, _), (2, _), (3, _)] Tryz.func120 rfl Tryz.ntmps120 rfl rfl ?_
 intro w0 F
 refine (QU) ?_
 rcases (Int.lt_or_le 4 kind) with hq | hq
 ·refine (Qs) ?_
  refine aj (H2 kind p1 c1 n1 L1 R1 hR1 hn1 hB1 p2 c2 n2 L2 R2 hR2 hn2 hB2 back hbk h2 hk hn1s false (decide_eq_false (by omega)).symm) V.RY  rfl (aO .nil) rfl ?_
  rintro _ _ ⟨rfl, rfl⟩
  refine (QI) ?_
  exact ag (ev rfl rfl) (.inl ⟨hq, rfl, rfl⟩) (sub (aO .nil) ak)
 ·refine (Qs) ?_
  refine aj (H2 kind p1 c1 n1 L1 R1 hR1 hn1 hB1 p2 c2 n2 L2 R2 hR2 hn2 hB2 back hbk h2 hk hn1s true (decide_eq_true (by omega)).symm) V.RY  rfl (aO .nil) rfl ?_
  rintro _ _ ⟨rfl, rfl⟩
  refine (Qe) ?_
  refine kL n1 n1 (U5) rfl rfl V.bE V.z5 rfl rfl rfl rfl (by omega) (by omega) rfl rfl ?_
  intro rb
  refine (QI) ?_
  rw [show List.replicate n1 U5.d = aa.iK kind L1 L2 back 0 from by rw [aa.PZ, hn1]]
  refine cE (fun (i : Nat) => [(0, .int .i64 kind), (2, .slice p2 n2 c2), (3, .int .i64 (back : Int)), (10, .slice (some ⟨rb, 0, none⟩) n1 n1), (22, .slice p1 n1 c1), (23, .int .i64 (n1 : Int)), (24, .int .i64 (i : Int))]) (fun (i : Nat) => Row U5 (some ⟨rb, 0, none⟩) n1 n1 (aa.iK kind L1 L2 back i) :: R1 :: R2 :: F) (fun (i : Nat) => i ≤ n1) (fun (i : Nat) => n1 - i) (i1 (0) ?_ (iE (bP ln)) (sub (eU .nil) ak)) ?_
  ·exact Nat.zero_le _
  intro i
  rintro hi
  refine (Qm) ?_
  refine aD rfl (fun h25 => ?_) (fun h25 => ?_)
  ·refine (Qs) ?_
   refine oV (xI V.bE (by exact bK hR1 dC))<|oV (xL V.s5 (by exact bK hR1 dC))<|(Qq) ?_
   refine aj (O8 kind (some ⟨rb, 0, none⟩) n1 n1 (aa.iK kind L1 L2 back i) (Row U5 (some ⟨rb, 0, none⟩) n1 n1 (aa.iK kind L1 L2 back i)) (fun _ _ hh => hh.rd) (by rw [aa.FU (by omega)]; exact hn1) aa.G8 p2 c2 n2 L2 R2 hR2 hn2 hB2 i back (by omega) hbk.2) V.Xk  rfl (ao (.cons ax .nil)) rfl ?_
   rintro _ _ ⟨rfl, rfl⟩
   rw [aa.KY (by omega)]
   refine oV (ei (r := (aa.iL kind L1 L2 back (aa.gp kind L1 L2 back i) i)) rfl rfl ((aa.ft _).trans (aa.Kg rfl rfl)))<|oV (xI V.bE (own aB))<|(UG)<|(AA) ?_
   rw [show List.set (aa.iK kind L1 L2 back i) ((i : Int)).toNat (aa.iL kind L1 L2 back (aa.gp kind L1 L2 back i) i) = aa.iK kind L1 L2 back (i + 1) from aa.Ha (by omega)]
   exact j1 (i + 1) ⟨by omega, by omega⟩ (iE (bP ln)) (sub (ao (.cons ax (.cons dj .nil))) ak)
  ·refine (Qi) ?_
   obtain rfl : i = n1 := by omega
   rw [show aa.iK kind L1 L2 back i = aa.eB kind L1 L2 back from hn1 ▸ aa.GP kind L1 L2 back]
   refine (Qs) ?_
   exact ag (ev rfl rfl) (.inr ⟨by omega, _, _, rfl, rfl⟩) (sub (eU .nil) ak)
end Go.Proofs.YtmaiakpjgomnpaaGreat
namespace Go.Proofs.YtmaiakpjgomnpaaGreat
open Go.Sl
theorem V.NV : ay Tryz.prog 120 = true := by kernel_rfl
theorem V.Oj : ay Tryz.prog 121 = true := by kernel_rfl
theorem V.Sh : ay Tryz.prog 151 = true := by kernel_rfl
theorem V.W6 : ay Tryz.prog 152 = true := by kernel_rfl
theorem V.Sa : a8 Tryz.prog 145 0 = some 0 := by kernel_rfl
theorem V.Yx : a8 Tryz.prog 145 1 = some 1 := by kernel_rfl
theorem V.X0 : a8 Tryz.prog 145 2 = some 2 := by kernel_rfl
theorem V.Y5 : a8 Tryz.prog 145 3 = some 3 := by kernel_rfl
end Go.Proofs.YtmaiakpjgomnpaaGreat
namespace Go.Proofs.YtmaiakpjgomnpaaGreat
open Go.Sl 
attribute [local irreducible] af.an aa.aW aa.up aa.bO aa.fK aa.D5 aa.deep aa.parts HW aa.aR aa.fS aa.dX aa.p9 aa.ky aa.fz aa.dW aa.eb aa.kN aa.ka aa.eB aa.dE
theorem MF (h : aa.Hd) (bf : Nat) (pp : Option Addr) (pl : List Int) (cp : Nat) (pt : Option Addr) (tr : List Int) (ct : Nat) (pd : Option Addr) (nd cd : Nat) (pk : Option Addr) (ck : Nat) (R : ad) (hP : ∀ w0 h, R w0 h → aE U5 pp pl.length pl w0 h) (hT : ∀ w0 h, R w0 h → aE U5 pt tr.length tr w0 h) (hcp : pl.length ≤ cp) (hB : af.an pl) (hBt : af.an tr) (hpl : pl.length < 500000000) (htl : tr.length < 500000000) (pv : Option Addr) (cv : Nat) (v : List Int) (Rk Rv : ad) (hRk : ∀ w0 h_, Rk w0 h_ → aE (aC 3 .i64) pk (aa.aR h tr).length (aa.aR h tr) w0 h_) (hRv : ∀ w0 h_, Rv w0 h_ → aE (aC 3 .i64) pv v.length v w0 h_) (hf : aa.fz ⟨h, pl, tr⟩) (hvl : v.length = (aa.parts h.ar).toNat) (hvx : ∀ x ∈ v, 0 ≤ x ∧ x < 2 ^ h.dep.toNat) (nv : Nat) (hnv : v.length = nv) (hk2 : v.getD 0 0 < 100000000) (hpx : aa.fS ⟨h, pl, tr⟩ v = none) : aA Tryz.prog 151 [.pointer (some ⟨bf, 0, none⟩), .slice pv nv cv] [ai bf 90 [.int .i64 h.w, .int .i64 h.h, .int .i64 h.dep, .int .i64 h.ar, .bool h.ba, .slice pp pl.length cp, .slice pt tr.length ct, .slice pd nd cd, .slice pk (aa.aR h tr).length ck], Rk, Rv, R] (aF fun e G => e = .tuple #[.agg #[.int .u16 0, .int .u16 0, .int .u16 0, .int .u16 0], .bool false] ∧ G = [ai bf 90 [.int .i64 h.w, .int .i64 h.h, .int .i64 h.dep, .int .i64 h.ar, .bool h.ba, .slice pp pl.length cp, .slice pt tr.length ct, .slice pd nd cd, .slice pk (aa.aR h tr).length ck], Rk, Rv, R]) := by
 subst hnv
 exact GJ h bf pp pl cp pt tr ct pd nd cd pk ck R hP hT hcp hB hBt hpl htl pv cv v Rk Rv hRk hRv hf hvl hvx hk2 hpx
theorem Rp (h : aa.Hd) (bf : Nat) (pp : Option Addr) (pl : List Int) (cp : Nat) (pt : Option Addr) (tr : List Int) (ct : Nat) (pd : Option Addr) (nd cd : Nat) (pk : Option Addr) (ck : Nat) (R : ad) (hP : ∀ w0 h, R w0 h → aE U5 pp pl.length pl w0 h) (hT : ∀ w0 h, R w0 h → aE U5 pt tr.length tr w0 h) (hcp : pl.length ≤ cp) (hB : af.an pl) (hBt : af.an tr) (hpl : pl.length < 500000000) (htl : tr.length < 500000000) (pv : Option Addr) (cv : Nat) (v : List Int) (Rk Rv : ad) (hRk : ∀ w0 h_, Rk w0 h_ → aE (aC 3 .i64) pk (aa.aR h tr).length (aa.aR h tr) w0 h_) (hRv : ∀ w0 h_, Rv w0 h_ → aE (aC 3 .i64) pv v.length v w0 h_) (hf : aa.fz ⟨h, pl, tr⟩) (hvl : v.length = (aa.parts h.ar).toNat) (hvx : ∀ x ∈ v, 0 ≤ x ∧ x < 2 ^ h.dep.toNat) (nv : Nat) (hnv : v.length = nv) (hk2 : v.getD 0 0 < 100000000) (c0 c1 c2 c3 : Int) (hpx : aa.fS ⟨h, pl, tr⟩ v = some [c0, c1, c2, c3]) : aA Tryz.prog 151 [.pointer (some ⟨bf, 0, none⟩), .slice pv nv cv] [ai bf 90 [.int .i64 h.w, .int .i64 h.h, .int .i64 h.dep, .int .i64 h.ar, .bool h.ba, .slice pp pl.length cp, .slice pt tr.length ct, .slice pd nd cd, .slice pk (aa.aR h tr).length ck], Rk, Rv, R] (aF fun e G => e = .tuple #[.agg #[.int .u16 c0, .int .u16 c1, .int .u16 c2, .int .u16 c3], .bool true] ∧ G = [ai bf 90 [.int .i64 h.w, .int .i64 h.h, .int .i64 h.dep, .int .i64 h.ar, .bool h.ba, .slice pp pl.length cp, .slice pt tr.length ct, .slice pd nd cd, .slice pk (aa.aR h tr).length ck], Rk, Rv, R]) := by
 subst hnv
 exact GB h bf pp pl cp pt tr ct pd nd cd pk ck R hP hT hcp hB hBt hpl htl pv cv v Rk Rv hRk hRv hf hvl hvx hk2 c0 c1 c2 c3 hpx
theorem Ig {h : aa.Hd} {row : List Int} {i : Nat} (hd : aa.im h.dep) (hp : 1 ≤ aa.parts h.ar) : (aa.dX h row i).getD 0 0 < 100000000 := by
 have h1 := aa.uc (h := h) (row := row) (x := i) _ (aa.hI (l := aa.dX h row i) (i := 0) (by rw [aa.kD]; omega))
 have := aa.lM hd
 omega
set_option maxHeartbeats 8000000 in
theorem Cg (h : aa.Hd) (bf : Nat) (pp : Option Addr) (pl : List Int) (cp : Nat) (pt : Option Addr) (tr : List Int) (ct : Nat) (pd : Option Addr) (nd cd : Nat) (pk : Option Addr) (ck : Nat) (R : ad) (hP : ∀ w0 h, R w0 h → aE U5 pp pl.length pl w0 h) (hT : ∀ w0 h, R w0 h → aE U5 pt tr.length tr w0 h) (hcp : pl.length ≤ cp) (hB : af.an pl) (hBt : af.an tr) (hpl : pl.length < 500000000) (htl : tr.length < 500000000) (Rk : ad) (hRk : ∀ w0 h_, Rk w0 h_ → aE (aC 3 .i64) pk (aa.aR h tr).length (aa.aR h tr) w0 h_) (hf : aa.fz ⟨h, pl, tr⟩) (hs : aa.aW h.w h.h = 0) (q : Option Addr) (n c : Nat) (hn : (n : Int) = 4 * h.w * h.h) (hcap : n ≤ c) (bN : List Int) (hpx0 : bN.length = n) (p : aa.Ps) (hp : aa.ka p h.w h.h) (yy : Nat) (hyy : (yy : Int) < p.h) (pb : Option Addr) (cb : Nat) (row : List Int) (hrl : row.length < 500000000) (hBr : af.an row) (Rb : ad) (hRb : ∀ w0 h, Rb w0 h → aE U5 pb row.length row w0 h) (hbits : ∀ i : Nat, (i : Int) < p.w → i * (aa.parts h.ar).toNat * h.dep.toNat + (aa.parts h.ar).toNat * h.dep.toNat ≤ 8 * row.length) : aA Tryz.prog 121 [.pointer (some ⟨bf, 0, none⟩), .agg #[.int .i64 h.w, .int .i64 h.h, .slice q n c], .agg #[.int .i64 p.x, .int .i64 p.y, .int .i64 p.dx, .int .i64 p.dy, .int .i64 p.w, .int .i64 p.h], .int .i64 (yy : Int), .slice pb row.length cb] [ai bf 90 [.int .i64 h.w, .int .i64 h.h, .int .i64 h.dep, .int .i64 h.ar, .bool h.ba, .slice pp pl.length cp, .slice pt tr.length ct, .slice pd nd cd, .slice pk (aa.aR h tr).length ck], Row (aC 62 .u16) q n c bN, Rk, Rb, R] (aF fun v G => (aa.dW ⟨h, pl, tr⟩ p (yy : Int) row p.w.toNat 0 bN = none ∧ v = .bool false ∧ ∃ P, P.length = n ∧ G = [ai bf 90 [.int .i64 h.w, .int .i64 h.h, .int .i64 h.dep, .int .i64 h.ar, .bool h.ba, .slice pp pl.length cp, .slice pt tr.length ct, .slice pd nd cd, .slice pk (aa.aR h tr).length ck], Row (aC 62 .u16) q n c P, Rk, Rb, R]) ∨ ∃ P, aa.dW ⟨h, pl, tr⟩ p (yy : Int) row p.w.toNat 0 bN = some P ∧ P.length = n ∧ v = .bool true ∧ G = [ai bf 90 [.int .i64 h.w, .int .i64 h.h, .int .i64 h.dep, .int .i64 h.ar, .bool h.ba, .slice pp pl.length cp, .slice pt tr.length ct, .slice pd nd cd, .slice pk (aa.aR h tr).length ck], Row (aC 62 .u16) q n c P, Rk, Rb, R]) := by
 refine au [(0, _), (1, _), (2, _), (3, _), (4, _)] Tryz.func121 rfl Tryz.ntmps121 rfl rfl ?_
 intro w0 F
 have hde : aa.deep h.ar h.dep := by unfold aa.fz at hf; exact hf.1
 have hpc := aa.gg hde
 have hdi := aa.iT (aa.gm hde)
 obtain ⟨N, hN⟩ : ∃ N, N = (aa.parts h.ar).toNat := ⟨_, rfl⟩
 obtain ⟨D, hD⟩ : ∃ D, D = h.dep.toNat := ⟨_, rfl⟩
 have hN2 : aa.parts h.ar = (N : Int) := by omega
 have hD2 : h.dep = (D : Int) := by omega
 have hpo := hp
 unfold aa.ka aa.jd at hpo
 obtain ⟨⟨hx0, hx1, hy0, hy1, hdx, hdy, hw0, hw1, hh0, hh1⟩, hix, hiy⟩ := hpo
 have hsd := aa.jE hs
 obtain ⟨RES, hRES⟩ : ∃ r, r = aa.dW ⟨h, pl, tr⟩ p (yy : Int) row p.w.toNat 0 bN := ⟨_, rfl⟩
 rw [← hRES]
 refine (Qt)<|(tt) ?_
 intro b6
 refine iI rfl (cs := [_, _, _, _, _, _]) rfl rfl ?_
 intro b7
 refine (Q1) ?_
 refine aj (w3 pb cb row Rb hRb hrl) V.Re  rfl (.cons jF .nil) rfl ?_
 rintro _ _ ⟨bx, rfl, rfl⟩
 refine (Qn) ?_
 refine oV (az V.s3 rfl jK rfl)<|aj (iy h.ar) V.qf  rfl .nil rfl ?_
 rintro _ _ ⟨rfl, rfl⟩
 rw [hN2]
 refine kL N N (I3) rfl rfl V.cH V.z3 rfl rfl rfl rfl (by omega) (by omega) rfl rfl ?_
 intro oC
 refine (Qc)<|(QA)<|(Q8) ?_
 rw [show HW bx row 0 [] 0 = HW bx row (0 * N * D) [] 0 from by rw [Nat.zero_mul, Nat.zero_mul]]
 rw [show List.replicate N (aC 3 .i64).d = List.replicate N 0 from rfl]
 refine gN (fun (i : Nat) (Vo : List Int) (P : List Int) => [(0, .pointer (some ⟨bf, 0, none⟩)), (3, .int .i64 (yy : Int)), (6, .pointer (some ⟨b6, 0, none⟩)), (7, .pointer (some ⟨b7, 0, none⟩)), (11, .pointer (some ⟨bx, 0, none⟩)), (12, .slice (some ⟨oC, 0, none⟩) N N), (27, .int .i64 p.w), (28, .int .i64 (i : Int))]) (fun (i : Nat) (Vo : List Int) (P : List Int) => HW bx row (i * N * D) [] 0 :: Row (aC 3 .i64) (some ⟨oC, 0, none⟩) N N Vo :: ai b6 26 [.int .i64 h.w, .int .i64 h.h, .slice q n c] :: ai b7 145 [.int .i64 p.x, .int .i64 p.y, .int .i64 p.dx, .int .i64 p.dy, .int .i64 p.w, .int .i64 p.h] :: ai bf 90 [.int .i64 h.w, .int .i64 h.h, .int .i64 h.dep, .int .i64 h.ar, .bool h.ba, .slice pp pl.length cp, .slice pt tr.length ct, .slice pd nd cd, .slice pk (aa.aR h tr).length ck] :: Row (aC 62 .u16) q n c P :: Rk :: Rb :: R :: F) (fun (i : Nat) (Vo : List Int) (P : List Int) => (i : Int) ≤ p.w ∧ Vo.length = N ∧ P.length = n ∧ aa.dW ⟨h, pl, tr⟩ p (yy : Int) row (p.w.toNat - i) i P = RES) (fun (i : Nat) (Vo : List Int) (P : List Int) => p.w.toNat - i) (i3 (0) (List.replicate N 0) (bN) ?_ (gL (bP ln)) (sub (.cons ax (ao (.cons bo (.cons ax (.cons ax (.cons ax (.cons ax (.cons dj (.cons dj .nil))))))))) ak)) ?_
 ·exact ⟨by omega, List.length_replicate, hpx0, hRES.symm⟩
 intro i Vo P
 rintro ⟨hi, hVl, hPl, hres⟩
 have hSl : (aa.dX h row i).length = N := by rw [aa.kD, hN]
 refine (Qm) ?_
 refine aD rfl (fun h29 => ?_) (fun h29 => ?_)
 ·refine rC TT 19 rfl ?_
  rw [show HW bx row (i * N * D) [] 0 = HW bx row (i * N * D + 0 * D) [] 0 from by rw [Nat.zero_mul, Nat.add_zero], show Row (aC 3 .i64) (some ⟨oC, 0, none⟩) N N Vo = Row (aC 3 .i64) (some ⟨oC, 0, none⟩) N N (aa.vN (aa.dX h row i) Vo 0) from by rw [aa.XK]]
  refine cE (fun (k : Nat) => [(0, .pointer (some ⟨bf, 0, none⟩)), (3, .int .i64 (yy : Int)), (6, .pointer (some ⟨b6, 0, none⟩)), (7, .pointer (some ⟨b7, 0, none⟩)), (11, .pointer (some ⟨bx, 0, none⟩)), (12, .slice (some ⟨oC, 0, none⟩) N N), (13, .int .i64 (i : Int)), (27, .int .i64 p.w), (28, .int .i64 (i : Int)), (32, .int .i64 (N : Int)), (33, .int .i64 (k : Int))]) (fun (k : Nat) => HW bx row (i * N * D + k * D) [] 0 :: Row (aC 3 .i64) (some ⟨oC, 0, none⟩) N N (aa.vN (aa.dX h row i) Vo k) :: ai b6 26 [.int .i64 h.w, .int .i64 h.h, .slice q n c] :: ai b7 145 [.int .i64 p.x, .int .i64 p.y, .int .i64 p.dx, .int .i64 p.dy, .int .i64 p.w, .int .i64 p.h] :: ai bf 90 [.int .i64 h.w, .int .i64 h.h, .int .i64 h.dep, .int .i64 h.ar, .bool h.ba, .slice pp pl.length cp, .slice pt tr.length ct, .slice pd nd cd, .slice pk (aa.aR h tr).length ck] :: Row (aC 62 .u16) q n c P :: Rk :: Rb :: R :: F) (fun (k : Nat) => k ≤ N) (fun (k : Nat) => N - k) (i1 (0) ?_ (jx (bP (bP ln))) (sub (mf (mB .nil)) ak)) ?_
  ·exact Nat.zero_le _
  intro k
  rintro hk
  refine (Qm) ?_
  refine aD rfl (fun h34 => ?_) (fun h34 => ?_)
  ·refine (QC) ?_
   have hkD : k * D + D ≤ N * D := by have := Nat.mul_le_mul_right D (show k + 1 ≤ N by omega); rwa [Nat.add_mul, Nat.one_mul] at this
   have hbi : i * N * D + N * D ≤ 8 * row.length := by rw [hN, hD]; exact hbits i (by omega)
   have hvl := aa.L5 (S := (aa.dX h row i)) (old := Vo) (k := k) (by omega) (by omega)
   refine rC TT 8 rfl<|oV (cW (v := .int .i64 (D : Int)) (az V.s3 rfl jK rfl) (congrArg (Value.int .i64) hD2))<|aj (jC bx row (i * N * D + k * D) [] 0 D hrl hBr (by omega) (by omega)) V.sx  rfl (ao .nil) rfl ?_
   rintro _ _ ⟨rfl, rfl⟩
   refine oV (xI V.cH (own dC))<|(YW)<|(AA) ?_
   rw [aa.WQ hN hD hVl (by omega), show i * N * D + k * D + D = i * N * D + (k + 1) * D from by rw [Nat.add_mul, Nat.one_mul, Nat.add_assoc]]
   exact j1 (k + 1) ⟨by omega, by omega⟩ (jx (bP (bP ln))) (sub (mf (mB .nil)) ak)
  ·refine (Qf) ?_
   rcases (aa.Kq ⟨h, pl, tr⟩ (aa.dX h row i)) with hpx | ⟨c0, c1, c2, c3, hpx⟩
   ·refine (Qa) ?_
    obtain rfl : N = k := by omega
    rw [show aa.vN (aa.dX h row i) Vo N = (aa.dX h row i) from hSl ▸ aa.NT (by omega)]
    refine (Q4) ?_
    refine aj (MF h bf pp pl cp pt tr ct pd nd cd pk ck R hP hT hcp hB hBt hpl htl (some ⟨oC, 0, none⟩) N (aa.dX h row i) Rk (Row (aC 3 .i64) (some ⟨oC, 0, none⟩) N N (aa.dX h row i)) hRk (fun _ _ hh => by rw [hSl]; exact hh.rd) hf (aa.kD h row i) aa.uc N hSl (Ig (aa.gm hde) (by omega)) hpx) V.Sh  rfl (.cons iB (.cons jF (.cons ax (.cons jF .nil)))) rfl ?_
    rintro _ _ ⟨rfl, rfl⟩
    refine (Qg)<|(yB) ?_
    intro b15
    refine (PF) ?_
    exact rO TT 23 rfl<|ag (av rfl) (.inl ⟨aa.PW (f := ⟨h, pl, tr⟩) (by omega) hpx hres, rfl, P, hPl, rfl⟩) (sub (.cons ax (.cons Mb (.cons ax (.cons oQ (.cons bo .nil))))) I0)
   ·refine (Qa) ?_
    obtain rfl : N = k := by omega
    rw [show aa.vN (aa.dX h row i) Vo N = (aa.dX h row i) from hSl ▸ aa.NT (by omega)]
    refine (Q4) ?_
    refine aj (Rp h bf pp pl cp pt tr ct pd nd cd pk ck R hP hT hcp hB hBt hpl htl (some ⟨oC, 0, none⟩) N (aa.dX h row i) Rk (Row (aC 3 .i64) (some ⟨oC, 0, none⟩) N N (aa.dX h row i)) hRk (fun _ _ hh => by rw [hSl]; exact hh.rd) hf (aa.kD h row i) aa.uc N hSl (Ig (aa.gm hde) (by omega)) c0 c1 c2 c3 hpx) V.Sh  rfl (.cons iB (.cons jF (.cons ax (.cons jF .nil)))) rfl ?_
    rintro _ _ ⟨rfl, rfl⟩
    refine (Qg)<|(yB) ?_
    intro b15
    refine (PF)<|(Qq) ?_
    have hnn : 0 ≤ (i : Int) * p.dx := Int.mul_nonneg (by omega) (by omega)
    have hnm : 0 ≤ (yy : Int) * p.dy := Int.mul_nonneg (by omega) (by omega)
    have hxx := hix i (by omega) (by omega)
    have hyv := hiy yy (by omega) (by omega)
    have hpi := aa.wz (w := h.w) (h := h.h) (x := (p.x + ((i : Int) * p.dx))) (y := (p.y + ((yy : Int) * p.dy))) ⟨by omega, by omega⟩ ⟨by omega, by omega⟩
    have h44 : 4 * h.w * h.h = 4 * (h.w * h.h) := Int.mul_assoc _ _ _
    refine (Qo) ?_
    refine oV (eC V.gJ rfl IL (vs := [_, _, _]) rfl rfl)<|oV (bg V.Sa rfl)<|(H9)<|(Q6)<|(H9) ?_
    refine iD TT 3 rfl (by omega)<|(H9)<|(Q6)<|(H9)<|(pS) ?_
    refine oV (eC V.ml rfl aB (vs := [_, _, _, _]) rfl rfl)<|aj (S7 h.w h.h hs q n c hn hcap P (p.x + ((i : Int) * p.dx)) (p.y + ((yy : Int) * p.dy)) ⟨by omega, by omega⟩ ⟨by omega, by omega⟩ c0 c1 c2 c3) V.W6  rfl (.cons Wn .nil) rfl ?_
    rintro _ _ ⟨rfl, rfl⟩
    refine (AA) ?_
    rw [show i * N * D + N * D = (i + 1) * N * D from by rw [Nat.add_mul, Nat.add_mul, Nat.one_mul]]
    exact j3 (i + 1) (aa.dX h row i) (aa.kN h.w P (p.x + ((i : Int) * p.dx)) (p.y + ((yy : Int) * p.dy)) [c0, c1, c2, c3]) ⟨⟨by omega, hSl, by rw [aa.GG rfl (by omega)]; exact hPl, aa.Ra (f := ⟨h, pl, tr⟩) (by omega) hpx hres⟩, by omega⟩ (gL (bP ln)) (sub (.cons oQ (.cons iB (.cons jF (.cons jF (.cons bo (ao (.cons ax (.cons bo (.cons ax .nil))))))))) bu)
 ·refine (ox) ?_
  exact ag (av rfl) (.inr ⟨P, aa.PM (f := ⟨h, pl, tr⟩) (by omega) hres, hPl, rfl, rfl⟩) (sub (.cons iB (.cons iB (.cons iB (.cons iB (.cons iB .nil))))) kv)
theorem Ko (kind : Int) (p1 : Option Addr) (c1 n1 : Nat) (L1 : List Int) (R1 : ad) (hR1 : ∀ w0 h, R1 w0 h → aE U5 p1 n1 L1 w0 h) (hn1 : L1.length = n1) (hB1 : af.an L1) (p2 : Option Addr) (c2 n2 : Nat) (L2 : List Int) (R2 : ad) (hR2 : ∀ w0 h, R2 w0 h → aE U5 p2 n2 L2 w0 h) (hn2 : L2.length = n2) (hB2 : af.an L2) (back : Nat) (hbk : 1 ≤ back ∧ back ≤ 8) (h2 : n2 = 0 ∨ n2 = n1) (hk : 0 ≤ kind) (hn1s : n1 < 500000000) (hq : 4 < kind) : aA Tryz.prog 120 [.int .i64 kind, .slice p1 n1 c1, .slice p2 n2 c2, .int .i64 (back : Int)] [R1, R2] (aF fun v G => v = .tuple #[.slice none 0 0, .bool false] ∧ G = [R1, R2]) := by
 refine (VK) ?_
 rintro e2 G ⟨v, rfl, (⟨_, rfl, rfl⟩ | ⟨h, _⟩)⟩
 ·exact ⟨_, rfl, rfl, rfl⟩
 ·exact absurd hq h
theorem Ks (kind : Int) (p1 : Option Addr) (c1 n1 : Nat) (L1 : List Int) (R1 : ad) (hR1 : ∀ w0 h, R1 w0 h → aE U5 p1 n1 L1 w0 h) (hn1 : L1.length = n1) (hB1 : af.an L1) (p2 : Option Addr) (c2 n2 : Nat) (L2 : List Int) (R2 : ad) (hR2 : ∀ w0 h, R2 w0 h → aE U5 p2 n2 L2 w0 h) (hn2 : L2.length = n2) (hB2 : af.an L2) (back : Nat) (hbk : 1 ≤ back ∧ back ≤ 8) (h2 : n2 = 0 ∨ n2 = n1) (hk : 0 ≤ kind) (hn1s : n1 < 500000000) (hq : ¬ 4 < kind) : aA Tryz.prog 120 [.int .i64 kind, .slice p1 n1 c1, .slice p2 n2 c2, .int .i64 (back : Int)] [R1, R2] (aF fun v G => ∃ a : Option Addr × Nat, v = .tuple #[.slice a.1 n1 a.2, .bool true] ∧ G = [Row U5 a.1 n1 a.2 (aa.eB kind L1 L2 back), R1, R2]) := by
 refine (VK) ?_
 rintro e2 G ⟨v, rfl, (⟨h, _⟩ | ⟨_, q, cq, rfl, rfl⟩)⟩
 ·exact absurd h hq
 ·exact ⟨_, rfl, (q, cq), rfl, rfl⟩
theorem Ns (h : aa.Hd) (bf : Nat) (pp : Option Addr) (pl : List Int) (cp : Nat) (pt : Option Addr) (tr : List Int) (ct : Nat) (pd : Option Addr) (nd cd : Nat) (pk : Option Addr) (ck : Nat) (R : ad) (hP : ∀ w0 h, R w0 h → aE U5 pp pl.length pl w0 h) (hT : ∀ w0 h, R w0 h → aE U5 pt tr.length tr w0 h) (hcp : pl.length ≤ cp) (hB : af.an pl) (hBt : af.an tr) (hpl : pl.length < 500000000) (htl : tr.length < 500000000) (Rk : ad) (hRk : ∀ w0 h_, Rk w0 h_ → aE (aC 3 .i64) pk (aa.aR h tr).length (aa.aR h tr) w0 h_) (hf : aa.fz ⟨h, pl, tr⟩) (hs : aa.aW h.w h.h = 0) (q : Option Addr) (n c : Nat) (hn : (n : Int) = 4 * h.w * h.h) (hcap : n ≤ c) (bN : List Int) (hpx0 : bN.length = n) (p : aa.Ps) (hp : aa.ka p h.w h.h) (yy : Nat) (hyy : (yy : Int) < p.h) (pb : Option Addr) (cb : Nat) (row : List Int) (hrl : row.length < 500000000) (hBr : af.an row) (Rb : ad) (hRb : ∀ w0 h, Rb w0 h → aE U5 pb row.length row w0 h) (hbits : ∀ i : Nat, (i : Int) < p.w → i * (aa.parts h.ar).toNat * h.dep.toNat + (aa.parts h.ar).toNat * h.dep.toNat ≤ 8 * row.length) (nl : Nat) (hnl : row.length = nl) (hr : aa.dW ⟨h, pl, tr⟩ p (yy : Int) row p.w.toNat 0 bN = none) : aA Tryz.prog 121 [.pointer (some ⟨bf, 0, none⟩), .agg #[.int .i64 h.w, .int .i64 h.h, .slice q n c], .agg #[.int .i64 p.x, .int .i64 p.y, .int .i64 p.dx, .int .i64 p.dy, .int .i64 p.w, .int .i64 p.h], .int .i64 (yy : Int), .slice pb nl cb] [ai bf 90 [.int .i64 h.w, .int .i64 h.h, .int .i64 h.dep, .int .i64 h.ar, .bool h.ba, .slice pp pl.length cp, .slice pt tr.length ct, .slice pd nd cd, .slice pk (aa.aR h tr).length ck], Row (aC 62 .u16) q n c bN, Rk, Rb, R] (aF fun v G => v = .bool false ∧ ∃ P, P.length = n ∧ G = [ai bf 90 [.int .i64 h.w, .int .i64 h.h, .int .i64 h.dep, .int .i64 h.ar, .bool h.ba, .slice pp pl.length cp, .slice pt tr.length ct, .slice pd nd cd, .slice pk (aa.aR h tr).length ck], Row (aC 62 .u16) q n c P, Rk, Rb, R]) := by
 subst hnl
 refine (Cg h bf pp pl cp pt tr ct pd nd cd pk ck R hP hT hcp hB hBt hpl htl Rk hRk hf hs q n c hn hcap bN hpx0 p hp yy hyy pb cb row hrl hBr Rb hRb hbits).mono ?_
 rintro e2 G ⟨v, rfl, (⟨_, rfl, P, h1, rfl⟩ | ⟨P, h, _⟩)⟩
 ·exact ⟨_, rfl, rfl, P, h1, rfl⟩
 ·rw [hr] at h; cases h
theorem R0 (h : aa.Hd) (bf : Nat) (pp : Option Addr) (pl : List Int) (cp : Nat) (pt : Option Addr) (tr : List Int) (ct : Nat) (pd : Option Addr) (nd cd : Nat) (pk : Option Addr) (ck : Nat) (R : ad) (hP : ∀ w0 h, R w0 h → aE U5 pp pl.length pl w0 h) (hT : ∀ w0 h, R w0 h → aE U5 pt tr.length tr w0 h) (hcp : pl.length ≤ cp) (hB : af.an pl) (hBt : af.an tr) (hpl : pl.length < 500000000) (htl : tr.length < 500000000) (Rk : ad) (hRk : ∀ w0 h_, Rk w0 h_ → aE (aC 3 .i64) pk (aa.aR h tr).length (aa.aR h tr) w0 h_) (hf : aa.fz ⟨h, pl, tr⟩) (hs : aa.aW h.w h.h = 0) (q : Option Addr) (n c : Nat) (hn : (n : Int) = 4 * h.w * h.h) (hcap : n ≤ c) (bN : List Int) (hpx0 : bN.length = n) (p : aa.Ps) (hp : aa.ka p h.w h.h) (yy : Nat) (hyy : (yy : Int) < p.h) (pb : Option Addr) (cb : Nat) (row : List Int) (hrl : row.length < 500000000) (hBr : af.an row) (Rb : ad) (hRb : ∀ w0 h, Rb w0 h → aE U5 pb row.length row w0 h) (hbits : ∀ i : Nat, (i : Int) < p.w → i * (aa.parts h.ar).toNat * h.dep.toNat + (aa.parts h.ar).toNat * h.dep.toNat ≤ 8 * row.length) (nl : Nat) (hnl : row.length = nl) (P2 : List Int) (hr : aa.dW ⟨h, pl, tr⟩ p (yy : Int) row p.w.toNat 0 bN = some P2) : aA Tryz.prog 121 [.pointer (some ⟨bf, 0, none⟩), .agg #[.int .i64 h.w, .int .i64 h.h, .slice q n c], .agg #[.int .i64 p.x, .int .i64 p.y, .int .i64 p.dx, .int .i64 p.dy, .int .i64 p.w, .int .i64 p.h], .int .i64 (yy : Int), .slice pb nl cb] [ai bf 90 [.int .i64 h.w, .int .i64 h.h, .int .i64 h.dep, .int .i64 h.ar, .bool h.ba, .slice pp pl.length cp, .slice pt tr.length ct, .slice pd nd cd, .slice pk (aa.aR h tr).length ck], Row (aC 62 .u16) q n c bN, Rk, Rb, R] (aF fun v G => P2.length = n ∧ v = .bool true ∧ G = [ai bf 90 [.int .i64 h.w, .int .i64 h.h, .int .i64 h.dep, .int .i64 h.ar, .bool h.ba, .slice pp pl.length cp, .slice pt tr.length ct, .slice pd nd cd, .slice pk (aa.aR h tr).length ck], Row (aC 62 .u16) q n c P2, Rk, Rb, R]) := by
 subst hnl
 refine (Cg h bf pp pl cp pt tr ct pd nd cd pk ck R hP hT hcp hB hBt hpl htl Rk hRk hf hs q n c hn hcap bN hpx0 p hp yy hyy pb cb row hrl hBr Rb hRb hbits).mono ?_
 rintro e2 G ⟨v, rfl, (⟨h, _⟩ | ⟨P, h, h1, rfl, rfl⟩)⟩
 ·rw [hr] at h; cases h
 ·rw [hr] at h; cases h; exact ⟨_, rfl, h1, rfl, rfl⟩
structure HP where
 a : Nat
 pz : Option Addr
 cz : Nat
 pa : Option Addr
 na : Nat
 ca : Nat
 A : List Int
 P : List Int
set_option maxHeartbeats 8000000 in
theorem xK (h : aa.Hd) (bf : Nat) (pp : Option Addr) (pl : List Int) (cp : Nat) (pt : Option Addr) (tr : List Int) (ct : Nat) (pd : Option Addr) (nd cd : Nat) (pk : Option Addr) (ck : Nat) (R : ad) (hP : ∀ w0 h, R w0 h → aE U5 pp pl.length pl w0 h) (hT : ∀ w0 h, R w0 h → aE U5 pt tr.length tr w0 h) (hcp : pl.length ≤ cp) (hB : af.an pl) (hBt : af.an tr) (hpl : pl.length < 500000000) (htl : tr.length < 500000000) (Rk : ad) (hRk : ∀ w0 h_, Rk w0 h_ → aE (aC 3 .i64) pk (aa.aR h tr).length (aa.aR h tr) w0 h_) (hf : aa.fz ⟨h, pl, tr⟩) (hs : aa.aW h.w h.h = 0) (q : Option Addr) (n c : Nat) (hn : (n : Int) = 4 * h.w * h.h) (hcap : n ≤ c) (bN : List Int) (hpx0 : bN.length = n) (p : aa.Ps) (hp : aa.ka p h.w h.h) (Dt : List Int) (hDB : af.an Dt) (hDl : Dt.length < 500000000) (nr : Nat) (hnr : (nr : Int) = aa.dE p.w (aa.parts h.ar * h.dep)) (back : Nat) (hback : (back : Int) = max 1 ((aa.parts h.ar * h.dep) / 8)) (at0 : Nat) (hat : at0 + p.h.toNat * (1 + nr) ≤ Dt.length) (pb : Option Addr) (cb : Nat) (Rb : ad) (hRb : ∀ w0 h, Rb w0 h → aE U5 pb (Dt.length - at0) (Dt.drop at0) w0 h) (hcb : Dt.length - at0 ≤ cb) : aA Tryz.prog 86 [.pointer (some ⟨bf, 0, none⟩), .agg #[.int .i64 h.w, .int .i64 h.h, .slice q n c], .agg #[.int .i64 p.x, .int .i64 p.y, .int .i64 p.dx, .int .i64 p.dy, .int .i64 p.w, .int .i64 p.h], .slice pb (Dt.length - at0) cb] [ai bf 90 [.int .i64 h.w, .int .i64 h.h, .int .i64 h.dep, .int .i64 h.ar, .bool h.ba, .slice pp pl.length cp, .slice pt tr.length ct, .slice pd nd cd, .slice pk (aa.aR h tr).length ck], Row (aC 62 .u16) q n c bN, Rk, Rb, R] (aF fun v G => (aa.eb ⟨h, pl, tr⟩ Dt nr back p p.h.toNat 0 at0 [] bN = none ∧ v = .tuple #[.slice none 0 0, .bool false] ∧ ∃ P, P.length = n ∧ G = [ai bf 90 [.int .i64 h.w, .int .i64 h.h, .int .i64 h.dep, .int .i64 h.ar, .bool h.ba, .slice pp pl.length cp, .slice pt tr.length ct, .slice pd nd cd, .slice pk (aa.aR h tr).length ck], Row (aC 62 .u16) q n c P, Rk, Rb, R]) ∨ ∃ at2 P pz cz, aa.eb ⟨h, pl, tr⟩ Dt nr back p p.h.toNat 0 at0 [] bN = some (at2, P) ∧ P.length = n ∧ at2 = at0 + p.h.toNat * (1 + nr) ∧ (∀ w0 h, Rb w0 h → aE U5 pz (Dt.length - at2) (Dt.drop at2) w0 h) ∧ Dt.length - at2 ≤ cz ∧ v = .tuple #[.slice pz (Dt.length - at2) cz, .bool true] ∧ G = [ai bf 90 [.int .i64 h.w, .int .i64 h.h, .int .i64 h.dep, .int .i64 h.ar, .bool h.ba, .slice pp pl.length cp, .slice pt tr.length ct, .slice pd nd cd, .slice pk (aa.aR h tr).length ck], Row (aC 62 .u16) q n c P, Rk, Rb, R]) := by
 refine au [(0, _), (1, _), (2, _), (3, _)] Tryz.func86 rfl Tryz.ntmps86 rfl rfl ?_
 intro w0 F
 have hde : aa.deep h.ar h.dep := by unfold aa.fz at hf; exact hf.1
 have hpc := aa.gg hde
 have hdi := aa.iT (aa.gm hde)
 have hpo := hp
 unfold aa.ka aa.jd at hpo
 obtain ⟨⟨hx0, hx1, hy0, hy1, hdx, hdy, hw0, hw1, hh0, hh1⟩, hix, hiy⟩ := hpo
 have hsd := aa.jE hs
 have hbits := aa.ld hde
 have hbk : 1 ≤ back ∧ back ≤ 8 := by omega
 obtain ⟨RES, hRES⟩ : ∃ r, r = aa.eb ⟨h, pl, tr⟩ Dt nr back p p.h.toNat 0 at0 [] bN := ⟨_, rfl⟩
 rw [← hRES]
 refine (Qt)<|(tt) ?_
 intro b5
 refine iI rfl (cs := [_, _, _, _, _, _]) rfl rfl ?_
 intro b6
 refine rO TT 5 rfl ?_
 refine wN [pz 0 [] [0], pz 1 [0] [], pz 3 [1] [], pz 7 [2] [], pz 15 [3] [], pz 31 [4] [], pz 0 [] [0], pz 64 [6] [], pz 192 [7] [], pz 448 [8] [], pz 960 [9] [], pz 2047 [5, 10] [], pz 4095 [11] []] [⟨fun y => ai b6 145 [.int .i64 p.x, .int .i64 p.y, .int .i64 p.dx, .int .i64 p.dy, .int .i64 p.w, .int .i64 p.h], none, none, []⟩, ⟨fun y => ai b5 26 [.int .i64 h.w, .int .i64 h.h, .slice q n c], none, none, []⟩, ⟨fun y => ai bf 90 [.int .i64 h.w, .int .i64 h.h, .int .i64 h.dep, .int .i64 h.ar, .bool h.ba, .slice pp pl.length cp, .slice pt tr.length ct, .slice pd nd cd, .slice pk (aa.aR h tr).length ck], none, none, [4, 10]⟩, ⟨fun y => Row (aC 62 .u16) q n c bN, none, none, []⟩, ⟨fun y => Rk, none, none, []⟩, ⟨fun y => Rb, none, none, []⟩, ⟨fun y => R, none, none, []⟩] F V.mixed ?_
 refine nM ?_
 refine nN ?_
 refine nG V.gC ?_
 refine nG V.qg ?_
 refine nR (fun y FF hA => az V.s3 rfl aB rfl) ?_
 refine nE (fun y FF hA => aV (Post := []) (iy h.ar) V.qf rfl .nil (fun v G h => by rcases h with ⟨rfl, rfl⟩; exact ⟨rfl, .refl _⟩)) ?_
 refine nM ?_
 refine nN ?_
 refine nG V.gC ?_
 refine nG V.vW ?_
 refine nR (fun y FF hA => az V.s3 rfl aB rfl) ?_
 refine nV (fun y hA L => gG (r := (aa.parts h.ar * h.dep)) rfl rfl wI) ?_
 refine nA ?_
 refine cQ ?_
 intro y hA
 clear hA
 refine bj<|bD [(0, .pointer (some ⟨bf, 0, none⟩)), (3, .slice pb (Dt.length - at0) cb), (5, .pointer (some ⟨b5, 0, none⟩)), (6, .pointer (some ⟨b6, 0, none⟩)), (10, .int .i64 (aa.parts h.ar * h.dep))] (.cons (d := 0) rfl (.cons (d := 3) rfl (.cons (d := 5) rfl (.cons (d := 6) rfl (.cons (d := 10) rfl (.nil _))))))<|a7 (M := ai b6 145 [.int .i64 p.x, .int .i64 p.y, .int .i64 p.dx, .int .i64 p.dy, .int .i64 p.w, .int .i64 p.h] :: ai b5 26 [.int .i64 h.w, .int .i64 h.h, .slice q n c] :: ai bf 90 [.int .i64 h.w, .int .i64 h.h, .int .i64 h.dep, .int .i64 h.ar, .bool h.ba, .slice pp pl.length cp, .slice pt tr.length ct, .slice pd nd cd, .slice pk (aa.aR h tr).length ck] :: Row (aC 62 .u16) q n c bN :: Rk :: Rb :: R :: F) (fun _ _ h => h)<|(sM)<|(Q7) ?_
 refine aj (Is p.w (aa.parts h.ar * h.dep) ⟨hw0, hw1⟩ ⟨by omega, by omega⟩) V.Oq  rfl .nil rfl ?_
 rintro _ _ ⟨rfl, rfl⟩
 rw [← hnr]
 refine (Q7)<|(qc) ?_
 refine oV (cW (v := .int .i64 (back : Int)) (BD rfl rfl) (congrArg (Value.int .i64) ((aa.ML _).trans hback.symm)))<|(Qq)<|(Qk)<|(Q8)<|(xF) ?_
 refine gk (fun (yv : Nat) (s : HP) => [(0, .pointer (some ⟨bf, 0, none⟩)), (3, .slice s.pz (Dt.length - s.a) s.cz), (5, .pointer (some ⟨b5, 0, none⟩)), (6, .pointer (some ⟨b6, 0, none⟩)), (11, .int .i64 (nr : Int)), (12, .int .i64 (back : Int)), (13, .slice s.pa s.na s.ca), (37, .int .i64 p.h), (38, .int .i64 (yv : Int))]) (fun (yv : Nat) (s : HP) => Rb :: Row U5 s.pa s.na s.ca s.A :: ai b5 26 [.int .i64 h.w, .int .i64 h.h, .slice q n c] :: ai b6 145 [.int .i64 p.x, .int .i64 p.y, .int .i64 p.dx, .int .i64 p.dy, .int .i64 p.w, .int .i64 p.h] :: ai bf 90 [.int .i64 h.w, .int .i64 h.h, .int .i64 h.dep, .int .i64 h.ar, .bool h.ba, .slice pp pl.length cp, .slice pt tr.length ct, .slice pd nd cd, .slice pk (aa.aR h tr).length ck] :: Row (aC 62 .u16) q n c s.P :: Rk :: R :: F) (fun (yv : Nat) (s : HP) => (yv : Int) ≤ p.h ∧ s.a = at0 + yv * (1 + nr) ∧ s.P.length = n ∧ s.A.length = s.na ∧ (s.na = 0 ∨ s.na = nr) ∧ af.an s.A ∧ (∀ w0 h, Rb w0 h → aE U5 s.pz (Dt.length - s.a) (Dt.drop s.a) w0 h) ∧ Dt.length - s.a ≤ s.cz ∧ aa.eb ⟨h, pl, tr⟩ Dt nr back p (p.h.toNat - yv) yv s.a s.A s.P = RES) (fun (yv : Nat) (s : HP) => p.h.toNat - yv) (i2 (0) (⟨at0, pb, cb, none, 0, 0, [], bN⟩) ?_ (eg (bP ln)) (sub (.cons oQ (ao (.cons ax (.cons dj (.cons dj (.cons dj (.cons dj (.cons dj .nil)))))))) ak)) ?_
 ·exact ⟨by omega, by simp, hpx0, rfl, .inl rfl, aa.gj, hRb, hcb, hRES.symm⟩
 intro yv s
 rintro ⟨hy, ha, hPl, hAl, hAn, hAB, hz, hcz, hres⟩
 refine (Qm) ?_
 refine aD rfl (fun h39 => ?_) (fun h39 => ?_)
 ·refine (QC) ?_
  rcases (aa.Ts ⟨h, pl, tr⟩ Dt nr back p yv s.a s.A s.P) with hk4 | ⟨hk4, hr⟩ | ⟨hk4, P2, hr⟩
  ·refine (Qa) ?_
   have hyh : (yv : Int) < p.h := by omega
   have hya : (yv + 1) * (1 + nr) ≤ p.h.toNat * (1 + nr) := Nat.mul_le_mul_right _ (by omega)
   rw [Nat.add_mul, Nat.one_mul] at hya
   have hKD : U5.g (Dt.drop s.a) 0 = (Dt.getD s.a 0) := aa.fG Dt s.a 0
   have hKB : 0 ≤ U5.g (Dt.drop s.a) 0 ∧ U5.g (Dt.drop s.a) 0 < 256 := hKD ▸ hDB.get _
   have hdl : (Dt.drop s.a).length = Dt.length - s.a := List.length_drop
   have hL1l : ((Dt.drop (s.a + 1)).take nr).length = nr := by rw [List.length_take, List.length_drop]; omega
   have hUl : (aa.eB (Dt.getD s.a 0) ((Dt.drop (s.a + 1)).take nr) s.A back).length = nr := (aa.tV ..).trans hL1l
   have hS1 : ∀ w0 h, Rb w0 h → aE U5 (dG s.pz 1 s.cz 1) nr ((Dt.drop (s.a + 1)).take nr) w0 h := fun w0 h hh => by have := kK (cap := 0) (fQ (c := U5) hz hdl 1 s.cz (by omega) hcz) nr (by omega) w0 h hh; rwa [List.drop_drop] at this
   refine wN [pz 0 [] [3], pz 1 [0] [], pz 3 [1] [], pz 7 [2] [], pz 0 [] [3], pz 0 [] [11], pz 32 [5] [], pz 112 [4, 6] [], pz 0 [] [13], pz 0 [] [12], pz 1023 [3, 7, 8, 9] [], pz 2047 [10] [], pz 4095 [11] [], pz 4095 [11] [], pz 8191 [12] [], pz 32767 [13] []] [⟨fun y => Rb, none, none, [1, 2, 10]⟩, ⟨fun y => Row U5 s.pa s.na s.ca s.A, none, none, [10]⟩, ⟨fun y => ai b5 26 [.int .i64 h.w, .int .i64 h.h, .slice q n c], none, none, []⟩, ⟨fun y => ai b6 145 [.int .i64 p.x, .int .i64 p.y, .int .i64 p.dx, .int .i64 p.dy, .int .i64 p.w, .int .i64 p.h], none, none, []⟩, ⟨fun y => ai bf 90 [.int .i64 h.w, .int .i64 h.h, .int .i64 h.dep, .int .i64 h.ar, .bool h.ba, .slice pp pl.length cp, .slice pt tr.length ct, .slice pd nd cd, .slice pk (aa.aR h tr).length ck], none, none, []⟩, ⟨fun y => Row (aC 62 .u16) q n c s.P, none, none, []⟩, ⟨fun y => Rk, none, none, []⟩, ⟨fun y => R, none, none, []⟩] F V.mixed ?_
   refine nM ?_
   refine (Y3) ?_
   refine (YR) ?_
   refine (Ya) ?_
   iterate 2 refine nM ?_
   refine (RQ)<|(Nb) ?_
   iterate 2 refine nM ?_
   refine nE (fun y FF hA => aV (Post := [Rb, Row U5 s.pa s.na s.ca s.A]) (Ko (Dt.getD s.a 0) (dG s.pz 1 s.cz 1) (s.cz - 1) nr ((Dt.drop (s.a + 1)).take nr) Rb hS1 hL1l (aa.fP (aa.dQ hDB _) _) s.pa s.ca s.na s.A (Row U5 s.pa s.na s.ca s.A) (fun _ _ hh => hh.rd) hAl hAB back hbk (by omega) (hDB.get _).1 (by omega) hk4) V.NV rfl (aO .nil) (fun v G h => by rcases h with ⟨rfl, rfl⟩; exact ⟨rfl, .refl _⟩))<|nM ?_
   iterate 2 refine nV (fun y hA L => eN rfl rfl) ?_
   iterate 2 refine nA ?_
   refine (Qb) ?_
   intro y hA
   clear hA
   refine bj<|bD [(0, .pointer (some ⟨bf, 0, none⟩)), (3, .slice s.pz (Dt.length - s.a) s.cz), (5, .pointer (some ⟨b5, 0, none⟩)), (6, .pointer (some ⟨b6, 0, none⟩)), (11, .int .i64 (nr : Int)), (12, .int .i64 (back : Int)), (14, .int .i64 (yv : Int)), (15, .slice none 0 0), (16, .bool false), (37, .int .i64 p.h), (38, .int .i64 (yv : Int))] (.cons (d := 0) rfl (.cons (d := 3) rfl (.cons (d := 5) rfl (.cons (d := 6) rfl (.cons (d := 11) rfl (.cons (d := 12) rfl (.cons (d := 14) rfl (.cons (d := 15) rfl (.cons (d := 16) rfl (.cons (d := 37) rfl (.cons (d := 38) rfl (.nil _))))))))))))<|a7 (M := Rb :: Row U5 s.pa s.na s.ca s.A :: ai b5 26 [.int .i64 h.w, .int .i64 h.h, .slice q n c] :: ai b6 145 [.int .i64 p.x, .int .i64 p.y, .int .i64 p.dx, .int .i64 p.dy, .int .i64 p.w, .int .i64 p.h] :: ai bf 90 [.int .i64 h.w, .int .i64 h.h, .int .i64 h.dep, .int .i64 h.ar, .bool h.ba, .slice pp pl.length cp, .slice pt tr.length ct, .slice pd nd cd, .slice pk (aa.aR h tr).length ck] :: Row (aC 62 .u16) q n c s.P :: Rk :: R :: F) (fun _ _ h => h)<|a7 (sub .nil (.keep (.skip (.keep (.keep (.keep (.keep (.keep (.keep .refl))))))))) ?_
   simp only [List.nil_append]
   refine rC TT 30 rfl ?_
   (exact ag (G := [ai bf 90 [.int .i64 h.w, .int .i64 h.h, .int .i64 h.dep, .int .i64 h.ar, .bool h.ba, .slice pp pl.length cp, .slice pt tr.length ct, .slice pd nd cd, .slice pk (aa.aR h tr).length ck], Row (aC 62 .u16) q n c s.P, Rk, Rb, R]) (ev rfl rfl) (.inl ⟨aa.JZ hyh hk4 hres, rfl, s.P, hPl, rfl⟩) (sub (.cons dk (.cons dk (.cons dk (ao (.cons bo .nil))))) fV))
  ·refine (Qa) ?_
   have hyh : (yv : Int) < p.h := by omega
   have hya : (yv + 1) * (1 + nr) ≤ p.h.toNat * (1 + nr) := Nat.mul_le_mul_right _ (by omega)
   rw [Nat.add_mul, Nat.one_mul] at hya
   have hKD : U5.g (Dt.drop s.a) 0 = (Dt.getD s.a 0) := aa.fG Dt s.a 0
   have hKB : 0 ≤ U5.g (Dt.drop s.a) 0 ∧ U5.g (Dt.drop s.a) 0 < 256 := hKD ▸ hDB.get _
   have hdl : (Dt.drop s.a).length = Dt.length - s.a := List.length_drop
   have hL1l : ((Dt.drop (s.a + 1)).take nr).length = nr := by rw [List.length_take, List.length_drop]; omega
   have hUl : (aa.eB (Dt.getD s.a 0) ((Dt.drop (s.a + 1)).take nr) s.A back).length = nr := (aa.tV ..).trans hL1l
   have hS1 : ∀ w0 h, Rb w0 h → aE U5 (dG s.pz 1 s.cz 1) nr ((Dt.drop (s.a + 1)).take nr) w0 h := fun w0 h hh => by have := kK (cap := 0) (fQ (c := U5) hz hdl 1 s.cz (by omega) hcz) nr (by omega) w0 h hh; rwa [List.drop_drop] at this
   refine jg [pz 0 [] [3], pz 1 [0] [], pz 3 [1] [], pz 7 [2] [], pz 0 [] [3], pz 0 [] [11], pz 32 [5] [], pz 112 [4, 6] [], pz 0 [] [13], pz 0 [] [12], pz 1023 [3, 7, 8, 9] [], pz 2047 [10] [], pz 4095 [11] [], pz 4095 [11] [], pz 8191 [12] [], pz 32767 [13] []] [⟨fun y => Rb, none, none, [1, 2, 10]⟩, ⟨fun y => Row U5 s.pa s.na s.ca s.A, none, none, [10]⟩, ⟨fun y => ai b5 26 [.int .i64 h.w, .int .i64 h.h, .slice q n c], none, none, []⟩, ⟨fun y => ai b6 145 [.int .i64 p.x, .int .i64 p.y, .int .i64 p.dx, .int .i64 p.dy, .int .i64 p.w, .int .i64 p.h], none, none, []⟩, ⟨fun y => ai bf 90 [.int .i64 h.w, .int .i64 h.h, .int .i64 h.dep, .int .i64 h.ar, .bool h.ba, .slice pp pl.length cp, .slice pt tr.length ct, .slice pd nd cd, .slice pk (aa.aR h tr).length ck], none, none, []⟩, ⟨fun y => Row (aC 62 .u16) q n c s.P, none, none, []⟩, ⟨fun y => Rk, none, none, []⟩, ⟨fun y => R, none, none, []⟩, ⟨fun y => Row U5 (eS (y 10)).1 nr (eS (y 10)).2 (aa.eB (Dt.getD s.a 0) ((Dt.drop (s.a + 1)).take nr) s.A back), some 10, none, []⟩] F V.mixed (by kernel_rfl) rfl (fun _ => .refl _) (aS _ (aS _ (aS _ (aS _ (aS _ (aS _ (aS _ (aS _ (cI _ rfl (by intro y y2 h; simp only [h 10 (.inl rfl)]) fg))))))))) ?_
   refine nM ?_
   refine nR (fun y FF hA => xI V.bE (by exact bK hz aB)) ?_
   refine nR (fun y FF hA => xL V.s5 (by exact bK hz aB)) ?_
   refine nV (fun y hA L => cW (v := .int .i64 (Dt.getD s.a 0)) (cF V.u5 Tryz.underlying3 rfl (aa.A6 hKB)) (congrArg (Value.int .i64) hKD)) ?_
   iterate 2 refine nM ?_
   refine (RQ)<|(Nb) ?_
   iterate 2 refine nM ?_
   refine (Wo) ?_
   refine (UZ) ?_
   refine (Vt) ?_
   refine (O4) ?_
   refine (U7) ?_
   refine nA ?_
   refine (Qb) ?_
   intro y hA
   clear hA
   refine bj ?_
   refine bD [(0, .pointer (some ⟨bf, 0, none⟩)), (3, .slice s.pz (Dt.length - s.a) s.cz), (5, .pointer (some ⟨b5, 0, none⟩)), (6, .pointer (some ⟨b6, 0, none⟩)), (11, .int .i64 (nr : Int)), (12, .int .i64 (back : Int)), (14, .int .i64 (yv : Int)), (15, .slice (eS (y 10)).1 nr (eS (y 10)).2), (16, .bool true), (37, .int .i64 p.h), (38, .int .i64 (yv : Int))] (.cons (d := 0) rfl (.cons (d := 3) rfl (.cons (d := 5) rfl (.cons (d := 6) rfl (.cons (d := 11) rfl (.cons (d := 12) rfl (.cons (d := 14) rfl (.cons (d := 15) rfl (.cons (d := 16) rfl (.cons (d := 37) rfl (.cons (d := 38) rfl (.nil _)))))))))))) ?_
   refine a7 (M := Rb :: Row U5 s.pa s.na s.ca s.A :: ai b5 26 [.int .i64 h.w, .int .i64 h.h, .slice q n c] :: ai b6 145 [.int .i64 p.x, .int .i64 p.y, .int .i64 p.dx, .int .i64 p.dy, .int .i64 p.w, .int .i64 p.h] :: ai bf 90 [.int .i64 h.w, .int .i64 h.h, .int .i64 h.dep, .int .i64 h.ar, .bool h.ba, .slice pp pl.length cp, .slice pt tr.length ct, .slice pd nd cd, .slice pk (aa.aR h tr).length ck] :: Row (aC 62 .u16) q n c s.P :: Rk :: R :: Row U5 (eS (y 10)).1 nr (eS (y 10)).2 (aa.eB (Dt.getD s.a 0) ((Dt.drop (s.a + 1)).take nr) s.A back) :: F) (fun _ _ h => h) ?_
   refine a7 (sub .nil (.keep (.skip (.keep (.keep (.keep (.keep (.keep (.keep (.keep .refl)))))))))) ?_
   simp only [List.nil_append]
   generalize (eS (y 10)).1 = q15
   generalize (eS (y 10)).2 = c15
   refine (Qs)<|(Q0)<|(q9)<|(Vv)<|(Qj) ?_
   refine aj (Ns h bf pp pl cp pt tr ct pd nd cd pk ck R hP hT hcp hB hBt hpl htl Rk hRk hf hs q n c hn hcap s.P hPl p hp yv hyh q15 c15 (aa.eB (Dt.getD s.a 0) ((Dt.drop (s.a + 1)).take nr) s.A back) (by rw [hUl]; omega) (aa.uM ..) (Row U5 q15 nr c15 (aa.eB (Dt.getD s.a 0) ((Dt.drop (s.a + 1)).take nr) s.A back)) (fun _ _ hh => by rw [hUl]; exact hh.rd) (by rw [hUl]; exact aa.yL (by omega) (by omega) hnr) nr hUl hr) V.Oj  rfl (.cons dk (.cons dk (.cons dk (.cons iB (.cons dk .nil))))) rfl ?_
   rintro _ _ ⟨rfl, P2, hP2, rfl⟩
   refine rO TT 18 rfl ?_
   (exact ag (G := [ai bf 90 [.int .i64 h.w, .int .i64 h.h, .int .i64 h.dep, .int .i64 h.ar, .bool h.ba, .slice pp pl.length cp, .slice pt tr.length ct, .slice pd nd cd, .slice pk (aa.aR h tr).length ck], Row (aC 62 .u16) q n c P2, Rk, Rb, R]) (ev rfl rfl) (.inl ⟨aa.Li hyh hk4 hr hres, rfl, P2, hP2, rfl⟩) (sub (eU (.cons bo (.cons ax .nil))) ny))
  ·refine (Qa) ?_
   have hyh : (yv : Int) < p.h := by omega
   have hya : (yv + 1) * (1 + nr) ≤ p.h.toNat * (1 + nr) := Nat.mul_le_mul_right _ (by omega)
   rw [Nat.add_mul, Nat.one_mul] at hya
   have hKD : U5.g (Dt.drop s.a) 0 = (Dt.getD s.a 0) := aa.fG Dt s.a 0
   have hKB : 0 ≤ U5.g (Dt.drop s.a) 0 ∧ U5.g (Dt.drop s.a) 0 < 256 := hKD ▸ hDB.get _
   have hdl : (Dt.drop s.a).length = Dt.length - s.a := List.length_drop
   have hL1l : ((Dt.drop (s.a + 1)).take nr).length = nr := by rw [List.length_take, List.length_drop]; omega
   have hUl : (aa.eB (Dt.getD s.a 0) ((Dt.drop (s.a + 1)).take nr) s.A back).length = nr := (aa.tV ..).trans hL1l
   have hS1 : ∀ w0 h, Rb w0 h → aE U5 (dG s.pz 1 s.cz 1) nr ((Dt.drop (s.a + 1)).take nr) w0 h := fun w0 h hh => by have := kK (cap := 0) (fQ (c := U5) hz hdl 1 s.cz (by omega) hcz) nr (by omega) w0 h hh; rwa [List.drop_drop] at this
   refine jg [pz 0 [] [3], pz 1 [0] [], pz 3 [1] [], pz 7 [2] [], pz 0 [] [3], pz 0 [] [11], pz 32 [5] [], pz 112 [4, 6] [], pz 0 [] [13], pz 0 [] [12], pz 1023 [3, 7, 8, 9] [], pz 2047 [10] [], pz 4095 [11] [], pz 4095 [11] [], pz 8191 [12] [], pz 32767 [13] []] [⟨fun y => Rb, none, none, [1, 2, 10]⟩, ⟨fun y => Row U5 s.pa s.na s.ca s.A, none, none, [10]⟩, ⟨fun y => ai b5 26 [.int .i64 h.w, .int .i64 h.h, .slice q n c], none, none, []⟩, ⟨fun y => ai b6 145 [.int .i64 p.x, .int .i64 p.y, .int .i64 p.dx, .int .i64 p.dy, .int .i64 p.w, .int .i64 p.h], none, none, []⟩, ⟨fun y => ai bf 90 [.int .i64 h.w, .int .i64 h.h, .int .i64 h.dep, .int .i64 h.ar, .bool h.ba, .slice pp pl.length cp, .slice pt tr.length ct, .slice pd nd cd, .slice pk (aa.aR h tr).length ck], none, none, []⟩, ⟨fun y => Row (aC 62 .u16) q n c s.P, none, none, []⟩, ⟨fun y => Rk, none, none, []⟩, ⟨fun y => R, none, none, []⟩, ⟨fun y => Row U5 (eS (y 10)).1 nr (eS (y 10)).2 (aa.eB (Dt.getD s.a 0) ((Dt.drop (s.a + 1)).take nr) s.A back), some 10, none, []⟩] F V.mixed (by kernel_rfl) rfl (fun _ => .refl _) (aS _ (aS _ (aS _ (aS _ (aS _ (aS _ (aS _ (aS _ (cI _ rfl (by intro y y2 h; simp only [h 10 (.inl rfl)]) fg))))))))) ?_
   refine nM ?_
   refine nR (fun y FF hA => xI V.bE (by exact bK hz aB)) ?_
   refine nR (fun y FF hA => xL V.s5 (by exact bK hz aB)) ?_
   refine nV (fun y hA L => cW (v := .int .i64 (Dt.getD s.a 0)) (cF V.u5 Tryz.underlying3 rfl (aa.A6 hKB)) (congrArg (Value.int .i64) hKD)) ?_
   iterate 2 refine nM ?_
   refine (RQ)<|(Nb) ?_
   iterate 2 refine nM ?_
   refine (Wo) ?_
   refine (UZ) ?_
   refine (Vt) ?_
   refine (O4) ?_
   refine (U7) ?_
   refine nA ?_
   refine (Qb) ?_
   intro y hA
   clear hA
   refine bj ?_
   refine bD [(0, .pointer (some ⟨bf, 0, none⟩)), (3, .slice s.pz (Dt.length - s.a) s.cz), (5, .pointer (some ⟨b5, 0, none⟩)), (6, .pointer (some ⟨b6, 0, none⟩)), (11, .int .i64 (nr : Int)), (12, .int .i64 (back : Int)), (14, .int .i64 (yv : Int)), (15, .slice (eS (y 10)).1 nr (eS (y 10)).2), (16, .bool true), (37, .int .i64 p.h), (38, .int .i64 (yv : Int))] (.cons (d := 0) rfl (.cons (d := 3) rfl (.cons (d := 5) rfl (.cons (d := 6) rfl (.cons (d := 11) rfl (.cons (d := 12) rfl (.cons (d := 14) rfl (.cons (d := 15) rfl (.cons (d := 16) rfl (.cons (d := 37) rfl (.cons (d := 38) rfl (.nil _)))))))))))) ?_
   refine a7 (M := Rb :: Row U5 s.pa s.na s.ca s.A :: ai b5 26 [.int .i64 h.w, .int .i64 h.h, .slice q n c] :: ai b6 145 [.int .i64 p.x, .int .i64 p.y, .int .i64 p.dx, .int .i64 p.dy, .int .i64 p.w, .int .i64 p.h] :: ai bf 90 [.int .i64 h.w, .int .i64 h.h, .int .i64 h.dep, .int .i64 h.ar, .bool h.ba, .slice pp pl.length cp, .slice pt tr.length ct, .slice pd nd cd, .slice pk (aa.aR h tr).length ck] :: Row (aC 62 .u16) q n c s.P :: Rk :: R :: Row U5 (eS (y 10)).1 nr (eS (y 10)).2 (aa.eB (Dt.getD s.a 0) ((Dt.drop (s.a + 1)).take nr) s.A back) :: F) (fun _ _ h => h) ?_
   refine a7 (sub .nil (.keep (.skip (.keep (.keep (.keep (.keep (.keep (.keep (.keep .refl)))))))))) ?_
   simp only [List.nil_append]
   generalize (eS (y 10)).1 = q15
   generalize (eS (y 10)).2 = c15
   refine (Qs)<|(Q0)<|(q9)<|(Vv)<|(Qj) ?_
   refine aj (R0 h bf pp pl cp pt tr ct pd nd cd pk ck R hP hT hcp hB hBt hpl htl Rk hRk hf hs q n c hn hcap s.P hPl p hp yv hyh q15 c15 (aa.eB (Dt.getD s.a 0) ((Dt.drop (s.a + 1)).take nr) s.A back) (by rw [hUl]; omega) (aa.uM ..) (Row U5 q15 nr c15 (aa.eB (Dt.getD s.a 0) ((Dt.drop (s.a + 1)).take nr) s.A back)) (fun _ _ hh => by rw [hUl]; exact hh.rd) (by rw [hUl]; exact aa.yL (by omega) (by omega) hnr) nr hUl P2 hr) V.Oj  rfl (.cons dk (.cons dk (.cons dk (.cons iB (.cons dk .nil))))) rfl ?_
   rintro _ _ ⟨hP2, rfl, rfl⟩
   refine (Qc)<|(so) ?_
   refine rR TT 3 rfl<|oR (cW (v := .int .i64 ((nr + 1 : Nat) : Int)) (ei (r := 1 + (nr : Int)) rfl rfl wI) (congrArg (Value.int .i64) (by omega)))<|oR (eh (nr + 1) (Dt.length - s.a) s.cz V.bE rfl ⟨_, rfl⟩ ⟨rfl, rfl⟩ rfl (by omega) (by omega) (by omega))<|rR TT 2 rfl<|Rg.c4<|M7 TT 6 rfl (by omega) ?_
   rw [show Dt.length - s.a - (nr + 1) = Dt.length - (s.a + 1 + nr) from by omega]
   exact j2 (yv + 1) ⟨s.a + 1 + nr, dG s.pz (nr + 1) s.cz 1, s.cz - (nr + 1), q15, nr, c15, (aa.eB (Dt.getD s.a 0) ((Dt.drop (s.a + 1)).take nr) s.A back), P2⟩ ⟨⟨by omega, by show s.a + 1 + nr = _; rw [Nat.add_mul, Nat.one_mul]; omega, hP2, hUl, .inr rfl, aa.uM .., (fun w0 h hh => by have := fQ (c := U5) hz hdl (nr + 1) s.cz (by omega) hcz w0 h hh; rw [List.drop_drop] at this; rwa [show Dt.length - s.a - (nr + 1) = Dt.length - (s.a + 1 + nr) by omega, show s.a + (nr + 1) = s.a + 1 + nr by omega] at this), by show Dt.length - (s.a + 1 + nr) ≤ s.cz - (nr + 1); omega, aa.JV hyh hk4 hr hres⟩, by omega⟩ (eg (bP ln)) (sub (.cons jF (.cons dk (.cons iB (.cons iB (mf .nil))))) ak)
 ·refine rC TT 13 rfl ?_
  have hyE : yv = p.h.toNat := by omega
  exact ag (ev rfl rfl) (.inr ⟨s.a, s.P, s.pz, s.cz, aa.LF (by omega) hres, hPl, by rw [ha, hyE], hz, hcz, rfl, rfl⟩) (sub (.cons iB (.cons iB (.cons iB (ao (.cons dk .nil))))) ny)
end Go.Proofs.YtmaiakpjgomnpaaGreat
namespace Go.Proofs.YtmaiakpjgomnpaaGreat
open Go.Sl
theorem V.OU : ay Tryz.prog 17 = true := by kernel_rfl
theorem V.Vg : ay Tryz.prog 37 = true := by kernel_rfl
theorem V.YX : ay Tryz.prog 38 = true := by kernel_rfl
theorem V.ra : ay Tryz.prog 39 = true := by kernel_rfl
theorem V.IH : ay Tryz.prog 40 = true := by kernel_rfl
theorem V.VE : ay Tryz.prog 41 = true := by kernel_rfl
theorem V.Zg : ay Tryz.prog 42 = true := by kernel_rfl
theorem V.YS : ay Tryz.prog 81 = true := by kernel_rfl
theorem V.YT : ay Tryz.prog 82 = true := by kernel_rfl
theorem V.Y1 : ay Tryz.prog 83 = true := by kernel_rfl
theorem V.Zb : ay Tryz.prog 84 = true := by kernel_rfl
theorem V.Yl : ay Tryz.prog 85 = true := by kernel_rfl
theorem V.Wm : ay Tryz.prog 86 = true := by kernel_rfl
end Go.Proofs.YtmaiakpjgomnpaaGreat
namespace Go.Proofs.YtmaiakpjgomnpaaGreat
open Go.Sl 
attribute [local irreducible] af.an aa.aW aa.bO aa.deep aa.parts HW aa.aR aa.fz aa.dW aa.eb aa.kN aa.ka aa.eB aa.dE aa.eA aa.k8 aa.want aa.aN aa.kG aa.mQ aa.mO aa.jd aG.lR aa.aZ aa.aT aa.aQ aa.aY aa.bR aa.eJ aa.ir aa.iO aa.bW aa.cJ aa.cut aa.du aa.oD
theorem JQ (h : aa.Hd) (bf : Nat) (pp : Option Addr) (pl : List Int) (cp : Nat) (pt : Option Addr) (tr : List Int) (ct : Nat) (pd : Option Addr) (nd cd : Nat) (pk : Option Addr) (ck : Nat) (R : ad) (hP : ∀ w0 h, R w0 h → aE U5 pp pl.length pl w0 h) (hT : ∀ w0 h, R w0 h → aE U5 pt tr.length tr w0 h) (hcp : pl.length ≤ cp) (hB : af.an pl) (hBt : af.an tr) (hpl : pl.length < 500000000) (htl : tr.length < 500000000) (Rk : ad) (hRk : ∀ w0 h_, Rk w0 h_ → aE (aC 3 .i64) pk (aa.aR h tr).length (aa.aR h tr) w0 h_) (hf : aa.fz ⟨h, pl, tr⟩) (hs : aa.aW h.w h.h = 0) (q : Option Addr) (n c : Nat) (hn : (n : Int) = 4 * h.w * h.h) (hcap : n ≤ c) (bN : List Int) (hpx0 : bN.length = n) (p : aa.Ps) (hp : aa.ka p h.w h.h) (Dt : List Int) (hDB : af.an Dt) (hDl : Dt.length < 500000000) (nr : Nat) (hnr : (nr : Int) = aa.dE p.w (aa.parts h.ar * h.dep)) (back : Nat) (hback : (back : Int) = max 1 ((aa.parts h.ar * h.dep) / 8)) (at0 : Nat) (hat : at0 + p.h.toNat * (1 + nr) ≤ Dt.length) (pb : Option Addr) (cb : Nat) (Rb : ad) (hRb : ∀ w0 h, Rb w0 h → aE U5 pb (Dt.length - at0) (Dt.drop at0) w0 h) (hcb : Dt.length - at0 ≤ cb) (hr : aa.eb ⟨h, pl, tr⟩ Dt nr back p p.h.toNat 0 at0 [] bN = none) : aA Tryz.prog 86 [.pointer (some ⟨bf, 0, none⟩), .agg #[.int .i64 h.w, .int .i64 h.h, .slice q n c], .agg #[.int .i64 p.x, .int .i64 p.y, .int .i64 p.dx, .int .i64 p.dy, .int .i64 p.w, .int .i64 p.h], .slice pb (Dt.length - at0) cb] [ai bf 90 [.int .i64 h.w, .int .i64 h.h, .int .i64 h.dep, .int .i64 h.ar, .bool h.ba, .slice pp pl.length cp, .slice pt tr.length ct, .slice pd nd cd, .slice pk (aa.aR h tr).length ck], Row (aC 62 .u16) q n c bN, Rk, Rb, R] (aF fun v G => v = .tuple #[.slice none 0 0, .bool false] ∧ ∃ P, P.length = n ∧ G = [ai bf 90 [.int .i64 h.w, .int .i64 h.h, .int .i64 h.dep, .int .i64 h.ar, .bool h.ba, .slice pp pl.length cp, .slice pt tr.length ct, .slice pd nd cd, .slice pk (aa.aR h tr).length ck], Row (aC 62 .u16) q n c P, Rk, Rb, R]) := by
 refine (xK h bf pp pl cp pt tr ct pd nd cd pk ck R hP hT hcp hB hBt hpl htl Rk hRk hf hs q n c hn hcap bN hpx0 p hp Dt hDB hDl nr hnr back hback at0 hat pb cb Rb hRb hcb).mono ?_
 rintro e2 G ⟨v, rfl, (⟨_, rfl, P, h1, rfl⟩ | ⟨a, P, z, cz, h, _⟩)⟩
 ·exact ⟨_, rfl, rfl, P, h1, rfl⟩
 ·rw [hr] at h; cases h
theorem JO (h : aa.Hd) (bf : Nat) (pp : Option Addr) (pl : List Int) (cp : Nat) (pt : Option Addr) (tr : List Int) (ct : Nat) (pd : Option Addr) (nd cd : Nat) (pk : Option Addr) (ck : Nat) (R : ad) (hP : ∀ w0 h, R w0 h → aE U5 pp pl.length pl w0 h) (hT : ∀ w0 h, R w0 h → aE U5 pt tr.length tr w0 h) (hcp : pl.length ≤ cp) (hB : af.an pl) (hBt : af.an tr) (hpl : pl.length < 500000000) (htl : tr.length < 500000000) (Rk : ad) (hRk : ∀ w0 h_, Rk w0 h_ → aE (aC 3 .i64) pk (aa.aR h tr).length (aa.aR h tr) w0 h_) (hf : aa.fz ⟨h, pl, tr⟩) (hs : aa.aW h.w h.h = 0) (q : Option Addr) (n c : Nat) (hn : (n : Int) = 4 * h.w * h.h) (hcap : n ≤ c) (bN : List Int) (hpx0 : bN.length = n) (p : aa.Ps) (hp : aa.ka p h.w h.h) (Dt : List Int) (hDB : af.an Dt) (hDl : Dt.length < 500000000) (nr : Nat) (hnr : (nr : Int) = aa.dE p.w (aa.parts h.ar * h.dep)) (back : Nat) (hback : (back : Int) = max 1 ((aa.parts h.ar * h.dep) / 8)) (at0 : Nat) (hat : at0 + p.h.toNat * (1 + nr) ≤ Dt.length) (pb : Option Addr) (cb : Nat) (Rb : ad) (hRb : ∀ w0 h, Rb w0 h → aE U5 pb (Dt.length - at0) (Dt.drop at0) w0 h) (hcb : Dt.length - at0 ≤ cb) (a2 : Nat) (P2 : List Int) (hr : aa.eb ⟨h, pl, tr⟩ Dt nr back p p.h.toNat 0 at0 [] bN = some (a2, P2)) : aA Tryz.prog 86 [.pointer (some ⟨bf, 0, none⟩), .agg #[.int .i64 h.w, .int .i64 h.h, .slice q n c], .agg #[.int .i64 p.x, .int .i64 p.y, .int .i64 p.dx, .int .i64 p.dy, .int .i64 p.w, .int .i64 p.h], .slice pb (Dt.length - at0) cb] [ai bf 90 [.int .i64 h.w, .int .i64 h.h, .int .i64 h.dep, .int .i64 h.ar, .bool h.ba, .slice pp pl.length cp, .slice pt tr.length ct, .slice pd nd cd, .slice pk (aa.aR h tr).length ck], Row (aC 62 .u16) q n c bN, Rk, Rb, R] (aF fun v G => ∃ pz cz, P2.length = n ∧ a2 = at0 + p.h.toNat * (1 + nr) ∧ (∀ w0 h, Rb w0 h → aE U5 pz (Dt.length - a2) (Dt.drop a2) w0 h) ∧ Dt.length - a2 ≤ cz ∧ v = .tuple #[.slice pz (Dt.length - a2) cz, .bool true] ∧ G = [ai bf 90 [.int .i64 h.w, .int .i64 h.h, .int .i64 h.dep, .int .i64 h.ar, .bool h.ba, .slice pp pl.length cp, .slice pt tr.length ct, .slice pd nd cd, .slice pk (aa.aR h tr).length ck], Row (aC 62 .u16) q n c P2, Rk, Rb, R]) := by
 refine (xK h bf pp pl cp pt tr ct pd nd cd pk ck R hP hT hcp hB hBt hpl htl Rk hRk hf hs q n c hn hcap bN hpx0 p hp Dt hDB hDl nr hnr back hback at0 hat pb cb Rb hRb hcb).mono ?_
 rintro e2 G ⟨v, rfl, (⟨h, _⟩ | ⟨a, P, z, cz, h, h1, h2, h3, h4, rfl, rfl⟩)⟩
 ·rw [hr] at h; cases h
 ·rw [hr] at h; cases h; exact ⟨_, rfl, z, cz, h1, h2, h3, h4, rfl, rfl⟩
theorem P9 (w h : Int) (hs : aa.aW w h = 0) : aA Tryz.prog 85 [.int .i64 w, .int .i64 h] [] (aF fun v G => ∃ b : Nat, v = .tuple #[.agg #[.int .i64 w, .int .i64 h, .slice (some ⟨b, 0, none⟩) ((4 * w * h).toNat) ((4 * w * h).toNat)], .int .i64 0] ∧ G = [Row (aC 62 .u16) (some ⟨b, 0, none⟩) ((4 * w * h).toNat) ((4 * w * h).toNat) (List.replicate ((4 * w * h).toNat) 0)]) := by
 refine (TC w h).mono ?_
 rintro e2 G ⟨v, rfl, (⟨h1, _⟩ | ⟨_, b, rfl, rfl⟩)⟩
 ·exact absurd hs h1
 ·exact ⟨_, rfl, b, rfl, rfl⟩
set_option maxHeartbeats 8000000 in
theorem M8 (h : aa.Hd) (bf : Nat) (pp : Option Addr) (pl : List Int) (cp : Nat) (pt : Option Addr) (tr : List Int) (ct : Nat) (pd : Option Addr) (cd : Nat) (pk : Option Addr) (ck : Nat) (R : ad) (hP : ∀ w0 h, R w0 h → aE U5 pp pl.length pl w0 h) (hT : ∀ w0 h, R w0 h → aE U5 pt tr.length tr w0 h) (hcp : pl.length ≤ cp) (hB : af.an pl) (hBt : af.an tr) (hpl : pl.length < 500000000) (htl : tr.length < 500000000) (Rk : ad) (hRk : ∀ w0 h_, Rk w0 h_ → aE (aC 3 .i64) pk (aa.aR h tr).length (aa.aR h tr) w0 h_) (hf : aa.fz ⟨h, pl, tr⟩) (hs : aa.aW h.w h.h = 0) (Z : List Int) (hZB : af.an Z) (hZl : Z.length < 500000000) (hcd : Z.length ≤ cd) (Rd : ad) (hRd : ∀ w0 h, Rd w0 h → aE U5 pd Z.length Z w0 h) (z : List Int × Int) (hz : aG.lR Z (aa.want h) z) : aA Tryz.prog 42 [.pointer (some ⟨bf, 0, none⟩)] [ai bf 90 [.int .i64 h.w, .int .i64 h.h, .int .i64 h.dep, .int .i64 h.ar, .bool h.ba, .slice pp pl.length cp, .slice pt tr.length ct, .slice pd Z.length cd, .slice pk (aa.aR h tr).length ck], Rk, Rd, R] (aF fun v G => ∃ q n c, v = .tuple #[.agg #[.int .i64 (aa.k8 ⟨h, pl, tr⟩ z).1.w, .int .i64 (aa.k8 ⟨h, pl, tr⟩ z).1.h, .slice q n c], .int .i64 (aa.k8 ⟨h, pl, tr⟩ z).2] ∧ (aa.k8 ⟨h, pl, tr⟩ z).1.bN.length = n ∧ n ≤ c ∧ G = [Row (aC 62 .u16) q n c (aa.k8 ⟨h, pl, tr⟩ z).1.bN]) := by
 refine au [(0, _)] Tryz.func42 rfl Tryz.ntmps42 rfl rfl ?_
 intro w0 F
 have hde : aa.deep h.ar h.dep := by unfold aa.fz at hf; exact hf.1
 have hpc := aa.gg hde
 have hdi := aa.iT (aa.gm hde)
 have hbits := aa.ld hde
 have hsd := aa.jE hs
 have hs4 := aa.pW hs
 have hps := aa.jR hs
 have hwi := aa.Lu hs hde
 have hzbl := aa.Mp hZB hwi.2 hz
 have hzB := hzbl.1
 have hzl := hzbl.2
 have hwn := aa.E3 hs hde
 refine (Qt)<|(vF) ?_
 intro b2
 refine rO TT 4 rfl ?_
 refine jg [pz 0 [] [0], pz 1 [0] [], pz 3 [1] [], pz 7 [2] [], pz 15 [3] [], pz 0 [] [0], pz 32 [5] [], pz 96 [6] [], pz 224 [7] [], pz 480 [8] [], pz 1023 [4, 9] [], pz 2047 [10] []] [⟨fun y => ai b2 26 [.int .i64 0, .int .i64 0, .slice none 0 0], none, none, []⟩, ⟨fun y => ai bf 90 [.int .i64 h.w, .int .i64 h.h, .int .i64 h.dep, .int .i64 h.ar, .bool h.ba, .slice pp pl.length cp, .slice pt tr.length ct, .slice pd Z.length cd, .slice pk (aa.aR h tr).length ck], none, none, [4, 9]⟩, ⟨fun y => Rk, none, none, []⟩, ⟨fun y => Rd, none, none, []⟩, ⟨fun y => R, none, none, []⟩, ⟨fun y => Row PK (cB (y 10)) (aa.whole h.w h.h).length (dS (y 10)) (aa.whole h.w h.h), some 10, none, []⟩] F V.mixed (by kernel_rfl) rfl (fun _ => .refl _) (aS _ (aS _ (aS _ (aS _ (aS _ (cI _ rfl (by intro y y2 h; simp only [h 10 (.inl rfl)]) fg)))))) ?_
 refine nM ?_
 refine nN ?_
 refine nG V.gC ?_
 refine nG V.BP ?_
 refine nR (fun y FF hA => az V.s3 rfl aB rfl) ?_
 refine nM ?_
 refine nN ?_
 refine nG V.gC ?_
 refine nG V.tl ?_
 refine nR (fun y FF hA => az V.s3 rfl aB rfl) ?_
 refine ek (fun y v => .slice (cB v) (aa.whole h.w h.h).length (dS v)) (fun y v => True) _ _ (fun y v => [Row PK (cB v) (aa.whole h.w h.h).length (dS v) (aa.whole h.w h.h)]) _ (fun y => rfl) (fun y => rfl) (fun y => rfl) (fun y => rfl) (fun y FF hA => mI (K1 h.w h.h hs) V.YS rfl .nil) (by intros; rfl) (by intros; rfl) (by intros; rfl) (by intro y y2 h; simp only [h 10 (.inl rfl)]) (by intro y y2 h; rfl) ?_
 refine dm _ (fun y => rfl) rfl rfl rfl (fun y hA L => de (iN rfl) ⟨rfl, rfl⟩) (by intros; rfl) (by intro y y2 h; simp only [h 10 (.inr (by decide))]) ?_
 refine cQ ?_
 intro y hA
 clear hA
 refine bj<|bD [(0, .pointer (some ⟨bf, 0, none⟩)), (2, .pointer (some ⟨b2, 0, none⟩)), (4, .slice (cB (y 10)) (aa.whole h.w h.h).length (dS (y 10)))] (.cons (d := 0) rfl (.cons (d := 2) rfl (.cons (d := 4) rfl (.nil _))))<|a7 (M := ai b2 26 [.int .i64 0, .int .i64 0, .slice none 0 0] :: ai bf 90 [.int .i64 h.w, .int .i64 h.h, .int .i64 h.dep, .int .i64 h.ar, .bool h.ba, .slice pp pl.length cp, .slice pt tr.length ct, .slice pd Z.length cd, .slice pk (aa.aR h tr).length ck] :: Rk :: Rd :: R :: Row PK (cB (y 10)) (aa.whole h.w h.h).length (dS (y 10)) (aa.whole h.w h.h) :: F) (fun _ _ h => h) ?_
 generalize (cB (y 10)) = pw
 generalize (dS (y 10)) = cw
 refine AV (fun (pa : Option Addr) (ca : Nat) => [(0, .pointer (some ⟨bf, 0, none⟩)), (2, .pointer (some ⟨b2, 0, none⟩)), (4, .slice pa (aa.aN h).length ca)]) (fun (pa : Option Addr) (ca : Nat) => Row PK pa (aa.aN h).length ca (aa.aN h) :: ai b2 26 [.int .i64 0, .int .i64 0, .slice none 0 0] :: ai bf 90 [.int .i64 h.w, .int .i64 h.h, .int .i64 h.dep, .int .i64 h.ar, .bool h.ba, .slice pp pl.length cp, .slice pt tr.length ct, .slice pd Z.length cd, .slice pk (aa.aR h tr).length ck] :: Rk :: Rd :: R :: F) (fun (pa : Option Addr) (ca : Nat) => True) ?_ ?_
 ·rcases (aa.tf h.ba) with hl1 | hl2
  ·refine rL TT 6 rfl ?_
   refine oV (cW (v := .bool true) (az V.s4 rfl dC rfl) (congrArg Value.bool hl1)) ?_
   refine rO TT 3 rfl ?_
   refine jg [pz 0 [] [0], pz 1 [0] [], pz 3 [1] [], pz 7 [2] [], pz 15 [3] [], pz 0 [] [0], pz 32 [5] [], pz 96 [6] [], pz 224 [7] [], pz 480 [8] [], pz 1023 [4, 9] [], pz 2047 [10] []] [⟨fun y => ai b2 26 [.int .i64 0, .int .i64 0, .slice none 0 0], none, none, []⟩, ⟨fun y => ai bf 90 [.int .i64 h.w, .int .i64 h.h, .int .i64 h.dep, .int .i64 h.ar, .bool h.ba, .slice pp pl.length cp, .slice pt tr.length ct, .slice pd Z.length cd, .slice pk (aa.aR h tr).length ck], none, none, [4, 9]⟩, ⟨fun y => Rk, none, none, []⟩, ⟨fun y => Rd, none, none, []⟩, ⟨fun y => R, none, none, []⟩, ⟨fun y => Row PK pw (aa.whole h.w h.h).length cw (aa.whole h.w h.h), none, none, []⟩, ⟨fun y => Row PK (cB (y 10)) (aa.eW h.w h.h).length (dS (y 10)) (aa.eW h.w h.h), some 10, none, []⟩] F V.mixed (by kernel_rfl) rfl (fun _ => .refl _) (aS _ (aS _ (aS _ (aS _ (aS _ (aS _ (cI _ rfl (by intro y y2 h; simp only [h 10 (.inl rfl)]) fg))))))) ?_
   refine nM ?_
   refine nN ?_
   refine nG V.gC ?_
   refine nG V.BP ?_
   refine nR (fun y FF hA => az V.s3 rfl aB rfl) ?_
   refine nM ?_
   refine nN ?_
   refine nG V.gC ?_
   refine nG V.tl ?_
   refine nR (fun y FF hA => az V.s3 rfl aB rfl) ?_
   refine ek (fun y v => .slice (cB v) (aa.eW h.w h.h).length (dS v)) (fun y v => True) _ _ (fun y v => [Row PK (cB v) (aa.eW h.w h.h).length (dS v) (aa.eW h.w h.h)]) _ (fun y => rfl) (fun y => rfl) (fun y => rfl) (fun y => rfl) (fun y FF hA => mI (Gn h.w h.h hs) V.YT rfl .nil) (by intros; rfl) (by intros; rfl) (by intros; rfl) (by intro y y2 h; simp only [h 10 (.inl rfl)]) (by intro y y2 h; rfl) ?_
   refine dm _ (fun y => rfl) rfl rfl rfl (fun y hA L => de (iN rfl) ⟨rfl, rfl⟩) (by intros; rfl) (by intro y y2 h; simp only [h 10 (.inr (by decide))]) ?_
   refine cQ ?_
   intro y hA
   clear hA
   show ib _ _ _ _ (ai b2 26 [.int .i64 0, .int .i64 0, .slice none 0 0] :: ai bf 90 [.int .i64 h.w, .int .i64 h.h, .int .i64 h.dep, .int .i64 h.ar, .bool h.ba, .slice pp pl.length cp, .slice pt tr.length ct, .slice pd Z.length cd, .slice pk (aa.aR h tr).length ck] :: Rk :: Rd :: R :: Row PK pw (aa.whole h.w h.h).length cw (aa.whole h.w h.h) :: Row PK (cB (y 10)) (aa.eW h.w h.h).length (dS (y 10)) (aa.eW h.w h.h) :: F)
   (rw [show (aa.eW h.w h.h) = (aa.aN h) from aa.BZ hl1]; exact j2 _ _ trivial (gL ln) (sub (.cons oQ (mB .nil)) bu))
  ·refine (Qm) ?_
   refine oV (cW (v := .bool false) (az V.s4 rfl dC rfl) (congrArg Value.bool hl2))<|(Q8) ?_
   (rw [show (aa.whole h.w h.h) = (aa.aN h) from aa.Ca hl2]; exact j2 _ _ trivial (gL ln) (sub (.cons jF (mB .nil)) ak))
 ·intro pa ca
  rintro -
  refine (Qa) ?_
  refine wN [pz 0 [] [4], pz 0 [] [0], pz 2 [1] [], pz 6 [2] [], pz 14 [3] [], pz 30 [4] [], pz 62 [5] [], pz 0 [] [0], pz 128 [7] [], pz 384 [8] [], pz 896 [9] [], pz 1920 [10] [], pz 4094 [6, 11] [], pz 8191 [0, 12] [], pz 16383 [13] []] [⟨fun y => Row PK pa (aa.aN h).length ca (aa.aN h), none, none, [13]⟩, ⟨fun y => ai b2 26 [.int .i64 0, .int .i64 0, .slice none 0 0], none, none, []⟩, ⟨fun y => ai bf 90 [.int .i64 h.w, .int .i64 h.h, .int .i64 h.dep, .int .i64 h.ar, .bool h.ba, .slice pp pl.length cp, .slice pt tr.length ct, .slice pd Z.length cd, .slice pk (aa.aR h tr).length ck], none, none, [5, 11]⟩, ⟨fun y => Rk, none, none, []⟩, ⟨fun y => Rd, none, none, []⟩, ⟨fun y => R, none, none, []⟩] F V.mixed ?_
  iterate 2 refine nM ?_
  refine nN ?_
  refine nG V.gC ?_
  refine nG V.qg ?_
  refine nR (fun y FF hA => az V.s3 rfl aB rfl) ?_
  refine nE (fun y FF hA => aV (Post := []) (iy h.ar) V.qf rfl .nil (fun v G h => by rcases h with ⟨rfl, rfl⟩; exact ⟨rfl, .refl _⟩)) ?_
  refine nM ?_
  refine nN ?_
  refine nG V.gC ?_
  refine nG V.vW ?_
  refine nR (fun y FF hA => az V.s3 rfl aB rfl) ?_
  refine nV (fun y hA L => gG (r := (aa.parts h.ar * h.dep)) rfl rfl wI) ?_
  refine nE (fun y FF hA => aV (Post := [Row PK pa (aa.aN h).length ca (aa.aN h)]) (KU pa ca (aa.aN h) (aa.parts h.ar * h.dep) (Row PK pa (aa.aN h).length ca (aa.aN h)) (fun _ _ hh => hh.rd) hps.2 (fun p hp => (hps.1 p hp).2.1) ⟨by omega, by omega⟩) V.Y1 rfl (ao .nil) (fun v G hh => by rcases hh with ⟨rfl, rfl⟩; exact ⟨congrArg (Value.int .i64) (aa.Kv h), .refl _⟩)) ?_
  refine nA ?_
  refine cQ ?_
  intro y hA
  clear hA
  refine bj<|bD [(0, .pointer (some ⟨bf, 0, none⟩)), (2, .pointer (some ⟨b2, 0, none⟩)), (4, .slice pa (aa.aN h).length ca), (5, .int .i64 (aa.want h))] (.cons (d := 0) rfl (.cons (d := 2) rfl (.cons (d := 4) rfl (.cons (d := 5) rfl (.nil _)))))<|a7 (M := Row PK pa (aa.aN h).length ca (aa.aN h) :: ai b2 26 [.int .i64 0, .int .i64 0, .slice none 0 0] :: ai bf 90 [.int .i64 h.w, .int .i64 h.h, .int .i64 h.dep, .int .i64 h.ar, .bool h.ba, .slice pp pl.length cp, .slice pt tr.length ct, .slice pd Z.length cd, .slice pk (aa.aR h tr).length ck] :: Rk :: Rd :: R :: F) (fun _ _ h => h)<|(Qf) ?_
  refine oV (az V.jw rfl dJ rfl)<|(Q7) ?_
  refine aj (Nd pd cd Z Rd hRd hcd hZl hZB (aa.want h) hwi.2 z hz) V.Zb  rfl (.cons iB .nil) rfl ?_
  rintro _ _ ⟨qz, cqz, rfl, rfl⟩
  refine (Qn) ?_
  rcases (aa.WJ ⟨h, pl, tr⟩ z) with ⟨h1, hw_⟩ | ⟨h1, h2, hw_⟩ | ⟨h1, h2⟩
  ·refine (Q4) ?_
   refine oV (c9 (cG rfl rfl) h1)<|(Q1)<|(u4)<|(Q7)<|(Rj)<|(Q1) ?_
   rw [hw_]
   exact ag (dU V.gJ rfl gq rfl rfl) ⟨none, 0, 0, rfl, rfl, Nat.le_refl _, rfl⟩ ((da (A := Row (aC 62 .u16) none 0 0 []) (fun w0 => Row.nil _ _ _)).trans (sub (ao .nil) Hw))
  ·refine (Q4) ?_
   refine oV (bS (cG rfl rfl) h1)<|(Qn) ?_
   refine oV (c9 (dR rfl rfl) h2)<|(Q1)<|(u4)<|(Rj)<|(Q1) ?_
   rw [hw_]
   exact ag (dU V.gJ rfl gq rfl rfl) ⟨none, 0, 0, rfl, rfl, Nat.le_refl _, rfl⟩ ((da (A := Row (aC 62 .u16) none 0 0 []) (fun w0 => Row.nil _ _ _)).trans (sub (ao .nil) Hw))
  ·refine (Q4) ?_
   refine oV (bS (cG rfl rfl) h1)<|(Qn) ?_
   refine oV (bS (dR rfl rfl) h2)<|(Ql) ?_
   refine gu (fun w hi => eX hi (show Row U5 qz z.1.length cqz z.1 ∈ _ by exact aB)) (fun hcz0 => ?_)
   refine jg [pz 0 [] [0], pz 1 [0] [], pz 3 [1] [], pz 7 [2] [], pz 15 [3] [], pz 0 [] [0], pz 32 [5] [], pz 96 [6] [], pz 224 [7] [], pz 480 [8] [], pz 1023 [4, 9] [], pz 2047 [10] [], pz 4095 [11] [], pz 4095 [11] [], pz 0 [] [], pz 24575 [14, 12] [], pz 65535 [13] []] [⟨fun y => Row U5 qz z.1.length cqz z.1, none, none, []⟩, ⟨fun y => Rd, none, none, []⟩, ⟨fun y => Row PK pa (aa.aN h).length ca (aa.aN h), none, none, []⟩, ⟨fun y => ai b2 26 [.int .i64 0, .int .i64 0, .slice none 0 0], none, none, []⟩, ⟨fun y => ai bf 90 [.int .i64 h.w, .int .i64 h.h, .int .i64 h.dep, .int .i64 h.ar, .bool h.ba, .slice pp pl.length cp, .slice pt tr.length ct, .slice pd Z.length cd, .slice pk (aa.aR h tr).length ck], none, none, [4, 9]⟩, ⟨fun y => Rk, none, none, []⟩, ⟨fun y => R, none, none, []⟩, ⟨fun y => Row (aC 62 .u16) (some ⟨vc (y 10), 0, none⟩) ((4 * h.w * h.h).toNat) ((4 * h.w * h.h).toNat) (List.replicate ((4 * h.w * h.h).toNat) 0), some 10, none, []⟩, ⟨fun y => ai (fo (y 14)) 26 [.int .i64 0, .int .i64 0, .slice none 0 0], some 14, some 15, []⟩, ⟨fun y => ai (fo (y 14)) 26 [.int .i64 h.w, .int .i64 h.h, .slice (some ⟨vc (y 10), 0, none⟩) ((4 * h.w * h.h).toNat) ((4 * h.w * h.h).toNat)], some 15, none, []⟩] F V.mixed (by kernel_rfl) rfl (fun _ => .refl _) (aS _ (aS _ (aS _ (aS _ (aS _ (aS _ (aS _ (cI _ rfl (by intro y y2 h; simp only [h 10 (.inl rfl)]) (cI _ rfl (by intro y y2 h; simp only [h 14 (.inl rfl)]) (cI _ rfl (by intro y y2 h; simp only [h 10 (.inr (by decide)), h 14 (.inr (by decide))]) fg)))))))))) ?_
   refine nM ?_
   refine nN ?_
   refine nG V.gC ?_
   refine nG V.BP ?_
   refine nR (fun y FF hA => az V.s3 rfl aB rfl) ?_
   refine nM ?_
   refine nN ?_
   refine nG V.gC ?_
   refine nG V.tl ?_
   refine nR (fun y FF hA => az V.s3 rfl aB rfl) ?_
   refine ek (fun y v => .tuple #[.agg #[.int .i64 h.w, .int .i64 h.h, .slice (some ⟨vc v, 0, none⟩) ((4 * h.w * h.h).toNat) ((4 * h.w * h.h).toNat)], .int .i64 0]) (fun y v => True) _ _ (fun y v => [Row (aC 62 .u16) (some ⟨vc v, 0, none⟩) ((4 * h.w * h.h).toNat) ((4 * h.w * h.h).toNat) (List.replicate ((4 * h.w * h.h).toNat) 0)]) _ (fun y => rfl) (fun y => rfl) (fun y => rfl) (fun y => rfl) (fun y FF hA => rV (α := Nat) (fun b => .tuple #[.agg #[.int .i64 h.w, .int .i64 h.h, .slice (some ⟨b, 0, none⟩) ((4 * h.w * h.h).toNat) ((4 * h.w * h.h).toNat)], .int .i64 0]) vc (fun b => [Row (aC 62 .u16) (some ⟨b, 0, none⟩) ((4 * h.w * h.h).toNat) ((4 * h.w * h.h).toNat) (List.replicate ((4 * h.w * h.h).toNat) 0)]) (P9 h.w h.h hs) (fun a => rfl) V.Yl rfl .nil) (by intros; rfl) (by intros; rfl) (by intros; rfl) (by intro y y2 h; simp only [h 10 (.inl rfl)]) (by intro y y2 h; rfl) ?_
   refine dm _ (fun y => rfl) rfl rfl rfl (fun y hA L => de (iW rfl) ⟨rfl, rfl⟩) (by intros; rfl) (by intro y y2 h; simp only [h 10 (.inr (by decide))]) ?_
   refine dm _ (fun y => rfl) rfl rfl rfl (fun y hA L => de (eN rfl rfl) ⟨rfl, rfl⟩) (by intros; rfl) (by intro y y2 h; simp only [h 10 (.inr (by decide))]) ?_
   refine nV (fun y hA L => eN rfl rfl) ?_
   refine ek (fun y v => .pointer (some ⟨fo v, 0, none⟩)) (fun y v => True) _ _ (fun y v => [ai (fo v) 26 [.int .i64 0, .int .i64 0, .slice none 0 0]]) _ (fun y => rfl) (fun y => rfl) (fun y => rfl) (fun y => rfl) (fun y FF hA => vD (uA V.vt)) (by intros; rfl) (by intros; rfl) (by intros; rfl) (by intro y y2 h; simp only [h 14 (.inl rfl)]) (by intro y y2 h; rfl) ?_
   refine nE (fun y FF hA => de (bd V.gJ rfl rfl (us := [_, _, _]) rfl rfl (by exact fO) (by exact Nat.le_of_ble_eq_true rfl) rfl) ⟨rfl, .refl _⟩) ?_
   refine nA ?_
   refine cQ ?_
   intro y hA
   clear hA
   refine bj<|bD [(0, .pointer (some ⟨bf, 0, none⟩)), (2, .pointer (some ⟨b2, 0, none⟩)), (4, .slice pa (aa.aN h).length ca), (6, .slice qz z.1.length cqz), (8, .pointer (some ⟨(fo (y 14)), 0, none⟩))] (.cons (d := 0) rfl (.cons (d := 2) rfl (.cons (d := 4) rfl (.cons (d := 6) rfl (.cons (d := 8) rfl (.nil _))))))<|a7 (M := Row U5 qz z.1.length cqz z.1 :: Rd :: Row PK pa (aa.aN h).length ca (aa.aN h) :: ai b2 26 [.int .i64 0, .int .i64 0, .slice none 0 0] :: ai bf 90 [.int .i64 h.w, .int .i64 h.h, .int .i64 h.dep, .int .i64 h.ar, .bool h.ba, .slice pp pl.length cp, .slice pt tr.length ct, .slice pd Z.length cd, .slice pk (aa.aR h tr).length ck] :: Rk :: R :: Row (aC 62 .u16) (some ⟨vc (y 10), 0, none⟩) ((4 * h.w * h.h).toNat) ((4 * h.w * h.h).toNat) (List.replicate ((4 * h.w * h.h).toNat) 0) :: ai (fo (y 14)) 26 [.int .i64 h.w, .int .i64 h.h, .slice (some ⟨vc (y 10), 0, none⟩) ((4 * h.w * h.h).toNat) ((4 * h.w * h.h).toNat)] :: F) (fun _ _ h => h) ?_
   generalize (vc (y 10)) = bq
   generalize (fo (y 14)) = b8
   refine rC TT 14 rfl ?_
   rw [show List.replicate ((4 * h.w * h.h).toNat) 0 = aa.iZ h from by unfold aa.iZ; rfl]
   obtain ⟨RES, hRES⟩ : ∃ r, r = aa.eA ⟨h, pl, tr⟩ z.1 (aa.aN h) 0 (aa.iZ h) := ⟨_, rfl⟩
   have h2w : ¬ (z.1.length : Int) < aa.want h := h2
   refine zd (fun (i : Nat) (a : Nat) (pz : Option Addr) (cz : Nat) (P : List Int) => [(0, .pointer (some ⟨bf, 0, none⟩)), (2, .pointer (some ⟨b2, 0, none⟩)), (6, .slice pz (z.1.length - a) cz), (8, .pointer (some ⟨b8, 0, none⟩)), (88, .slice pa (aa.aN h).length ca), (89, .int .i64 ((aa.aN h).length : Int)), (90, .int .i64 (i : Int))]) (fun (i : Nat) (a : Nat) (pz : Option Addr) (cz : Nat) (P : List Int) => ai b8 26 [.int .i64 h.w, .int .i64 h.h, .slice (some ⟨bq, 0, none⟩) ((4 * h.w * h.h).toNat) ((4 * h.w * h.h).toNat)] :: Row (aC 62 .u16) (some ⟨bq, 0, none⟩) ((4 * h.w * h.h).toNat) ((4 * h.w * h.h).toNat) P :: Row PK pa (aa.aN h).length ca (aa.aN h) :: Row U5 qz z.1.length cqz z.1 :: ai b2 26 [.int .i64 0, .int .i64 0, .slice none 0 0] :: ai bf 90 [.int .i64 h.w, .int .i64 h.h, .int .i64 h.dep, .int .i64 h.ar, .bool h.ba, .slice pp pl.length cp, .slice pt tr.length ct, .slice pd Z.length cd, .slice pk (aa.aR h tr).length ck] :: Rk :: Rd :: R :: F) (fun (i : Nat) (a : Nat) (pz : Option Addr) (cz : Nat) (P : List Int) => i ≤ (aa.aN h).length ∧ P.length = ((4 * h.w * h.h).toNat) ∧ a + aa.mO (aa.bitsOf h) ((aa.aN h).drop i) ≤ z.1.length ∧ (∀ w0 h, (Row U5 qz z.1.length cqz z.1) w0 h → aE U5 pz (z.1.length - a) (z.1.drop a) w0 h) ∧ z.1.length - a ≤ cz ∧ aa.eA ⟨h, pl, tr⟩ z.1 ((aa.aN h).drop i) a P = RES) (fun (i : Nat) (a : Nat) (pz : Option Addr) (cz : Nat) (P : List Int) => (aa.aN h).length - i) (i5 (0) (0) (qz) (cqz) (aa.iZ h) ?_ (iE (bP ln)) (sub (.cons Wn (.cons Mb (.cons bo (ao (.cons ax (.cons ax (.cons ax (.cons dj (.cons dj .nil))))))))) ak)) ?_
   ·exact ⟨Nat.zero_le _, List.length_replicate, by rw [List.drop_zero]; show 0 + _ ≤ _; omega, (fun _ _ hh => hh.rd), hcz0, hRES.symm⟩
   intro i a pz cz P
   rintro ⟨hi, hPl, hat, hzr, hzc, hres⟩
   refine (Qm) ?_
   refine aD rfl (fun h91 => ?_) (fun h91 => ?_)
   ·refine (Qf) ?_
    obtain ⟨x, hx⟩ : ∃ x, x = (PK.g (aa.aN h) (i : Int)) := ⟨_, rfl⟩
    have hx2 : x = (aa.aN h).getD i ⟨0, 0, 0, 0, 0, 0⟩ := hx
    have hxi := hps.1 x (hx2 ▸ aa.GK (by omega))
    have hne := aa.RL (bits := aa.bitsOf h) (by omega) hx2
    refine (Qo) ?_
    refine oV (xI V.sI (own dJ))<|oV (cW (v := .agg #[.int .i64 x.x, .int .i64 x.y, .int .i64 x.dx, .int .i64 x.dy, .int .i64 x.w, .int .i64 x.h]) (mZ (c := PK) V.a145 rfl (own dJ) (by omega) (by omega) rfl) (by rw [hx]))<|dh V.z145 rfl ?_
    intro b12
    refine (Pe)<|(Q6) ?_
    rcases (aa.WW (aa.eb ⟨h, pl, tr⟩ z.1 (aa.kG h x) (aa.mQ h) x x.h.toNat 0 a [] P)) with hr | ⟨a2, P2, hr⟩
    ·refine (Q4)<|(q9)<|(N2)<|(Q7) ?_
     refine aj (JQ h bf pp pl cp pt tr ct pd Z.length cd pk ck R hP hT hcp hB hBt hpl htl Rk hRk hf hs (some ⟨bq, 0, none⟩) ((4 * h.w * h.h).toNat) ((4 * h.w * h.h).toNat) (by omega) (Nat.le_refl _) P hPl x hxi.1 z.1 hzB hzl (aa.kG h x) (aa.Ax hxi.2.1 hde) (aa.mQ h) (aa.AX h) a (by rw [hne] at hat; unfold aa.kG; omega) pz cz (Row U5 qz z.1.length cqz z.1) hzr hzc hr) V.Wm  rfl (.cons oQ (.cons bo (.cons jF (.cons dk (.cons jF .nil))))) rfl ?_
     rintro _ _ ⟨rfl, P2, hP2, rfl⟩
     refine rO TT 16 rfl<|(u4) ?_
     refine cA (bd V.gJ rfl rfl (us := [_, _, _]) rfl rfl (by exact Yf) (by exact Nat.le_of_ble_eq_true rfl) rfl)<|(Qn) ?_
     rw [aa.Jk (f := ⟨h, pl, tr⟩) h1 h2 (hRES.symm.trans (aa.RB (f := ⟨h, pl, tr⟩) (by omega) hx2 hr hres))]
     exact ag (dU V.gJ rfl YM rfl rfl) ⟨none, 0, 0, rfl, rfl, Nat.le_refl _, rfl⟩ ((da (A := Row (aC 62 .u16) none 0 0 []) (fun w0 => Row.nil _ _ _)).trans (sub (ao .nil) Xx))
    ·refine (Q4)<|(q9)<|(N2)<|(Q7) ?_
     refine aj (JO h bf pp pl cp pt tr ct pd Z.length cd pk ck R hP hT hcp hB hBt hpl htl Rk hRk hf hs (some ⟨bq, 0, none⟩) ((4 * h.w * h.h).toNat) ((4 * h.w * h.h).toNat) (by omega) (Nat.le_refl _) P hPl x hxi.1 z.1 hzB hzl (aa.kG h x) (aa.Ax hxi.2.1 hde) (aa.mQ h) (aa.AX h) a (by rw [hne] at hat; unfold aa.kG; omega) pz cz (Row U5 qz z.1.length cqz z.1) hzr hzc a2 P2 hr) V.Wm  rfl (.cons oQ (.cons bo (.cons jF (.cons dk (.cons jF .nil))))) rfl ?_
     rintro _ _ ⟨pz2, cz2, hP2, ha2, hz2, hcz2, rfl, rfl⟩
     exact iD TT 21 rfl (by omega)<|j5 (i + 1) a2 pz2 cz2 P2 ⟨⟨by omega, hP2, by rw [ha2]; rw [hne] at hat; unfold aa.kG; omega, hz2, hcz2, aa.M6 (f := ⟨h, pl, tr⟩) (by omega) hx2 hr hres⟩, by omega⟩ (iE (bP ln)) (sub (.cons oQ (.cons ax (.cons jF (.cons bo (.cons iB (aO (.cons bo (.cons dj .nil)))))))) bu)
   ·refine (Qs)<|(wT)<|(LX)<|(Q8) ?_
    rw [aa.IU (f := ⟨h, pl, tr⟩) h1 h2 (hRES.symm.trans (aa.N1 (by omega) hres))]
    exact ag (dU V.gJ rfl jK rfl rfl) ⟨_, _, _, rfl, hPl, Nat.le_refl _, rfl⟩ (sub (.cons ax .nil) N6)
theorem Pg (p : Option Addr) (c : Nat) (B : List Int) (R : ad) (hR : ∀ w0 h, R w0 h → aE U5 p B.length B w0 h) (hl : B.length < 500000000) (hB : af.an B) (hcap : B.length ≤ c) (e : Int) (hc : aa.cut B = .error e) : aA Tryz.prog 37 [.slice p B.length c] [R] (aF fun v G => v = .tuple #[.slice none 0 0, .int .i64 e] ∧ G = [R]) := by
 refine (IS p c B R hR hl hB hcap).mono ?_
 rintro e2 G ⟨v, rfl, (⟨e', h, rfl, rfl⟩ | ⟨q, cq, es, h, _⟩)⟩
 ·rw [hc] at h; cases h; exact ⟨_, rfl, rfl, rfl⟩
 ·rw [hc] at h; cases h
theorem L6 (p : Option Addr) (c : Nat) (B : List Int) (R : ad) (hR : ∀ w0 h, R w0 h → aE U5 p B.length B w0 h) (hl : B.length < 500000000) (hB : af.an B) (hcap : B.length ≤ c) (l : List aa.Ch) (hc : aa.cut B = .ok l) : aA Tryz.prog 37 [.slice p B.length c] [R] (aF fun v G => ∃ q cq, ∃ es : List Ce, l = es.map Ce.ch ∧ es.length ≤ 262144 ∧ (∀ y ∈ es, Ay y) ∧ v = .tuple #[.slice q es.length cq, .int .i64 0] ∧ G = [Row CK q es.length cq es, DK es, R]) := by
 refine (IS p c B R hR hl hB hcap).mono ?_
 rintro e2 G ⟨v, rfl, (⟨e', h, _⟩ | ⟨q, cq, es, h, h1, h2, rfl, rfl⟩)⟩
 ·rw [hc] at h; cases h
 ·rw [hc] at h; cases h; exact ⟨_, rfl, q, cq, es, rfl, h1, h2, rfl, rfl⟩
theorem Cm {B : List Int} {es : List Ce} (hB : af.an B) (hc : aa.cut B = .ok (es.map Ce.ch)) : H4 es := fun x hx => aa.Tq hB hc x.ch (List.mem_map_of_mem hx)
theorem oG (es : List Ce) : aa.du (es.map Ce.ch) = (CK.g es 0).d := by
 unfold aa.du
 cases es <;> rfl
theorem N8 {es : List Ce} (h : 0 < es.length) : CK.g es 0 ∈ es := by
 match es, h with
 | x :: es, _ => exact List.mem_cons_self ..
theorem tQ {es : List Ce} {s : o6} (hs : lE es es.length s) (ho : aa.cJ (es.map Ce.ch) = true) : s.P = aa.bC (es.map Ce.ch) aa.aT ∧ s.T = aa.bC (es.map Ce.ch) aa.aQ ∧ s.D = aa.bW (es.map Ce.ch) ∧ s.hp = aa.dV (es.map Ce.ch) aa.aT ∧ s.ht = aa.dV (es.map Ce.ch) aa.aQ := by
 obtain ⟨h1, h2, h3, h4, h5, _⟩ := hs
 have e : (es.map Ce.ch).take es.length = es.map Ce.ch := List.take_of_length_le (by rw [List.length_map]; exact Nat.le_refl _)
 rw [e] at h1 h2 h3 h4 h5
 have hl := aa.Fw ho
 exact ⟨h1.trans hl.1, h2.trans hl.2, h3, h4, h5⟩
theorem qN (h : aa.Hd) (hd : aa.im h.dep) (bf : Nat) (pp : Option Addr) (pl : List Int) (cp : Nat) (pt : Option Addr) (tr : List Int) (ct : Nat) (pd : Option Addr) (nd cd : Nat) (pk : Option Addr) (nk ck : Nat) (hl : pl.length < 500000000) (has : Bool) (t : Bool) (ht : t = decide (aa.ir h pl has)) : aA Tryz.prog 40 [.pointer (some ⟨bf, 0, none⟩), .bool has] [ai bf 90 [.int .i64 h.w, .int .i64 h.h, .int .i64 h.dep, .int .i64 h.ar, .bool h.ba, .slice pp pl.length cp, .slice pt tr.length ct, .slice pd nd cd, .slice pk nk ck]] (aF fun v G => v = .bool t ∧ G = [ai bf 90 [.int .i64 h.w, .int .i64 h.h, .int .i64 h.dep, .int .i64 h.ar, .bool h.ba, .slice pp pl.length cp, .slice pt tr.length ct, .slice pd nd cd, .slice pk nk ck]]) := by
 cases has with
 | true => exact D0 h hd bf pp pl cp pt tr ct pd nd cd pk nk ck hl t ht
 | false => exact Cn h hd bf pp pl cp pt tr ct pd nd cd pk nk ck hl t ht
theorem yi (h : aa.Hd) (hd : aa.im h.dep) (bf : Nat) (pp : Option Addr) (pl : List Int) (cp : Nat) (pt : Option Addr) (tr : List Int) (ct : Nat) (pd : Option Addr) (nd cd : Nat) (hpl : pl.length < 500000000) (htl : tr.length < 500000000) (hB : af.an tr) (R : ad) (hR : ∀ w0 h, R w0 h → aE U5 pt tr.length tr w0 h) (is : Bool) (hi : is = false → tr = []) (t : Bool) (ht : t = decide (aa.iO h pl tr is)) : aA Tryz.prog 41 [.pointer (some ⟨bf, 0, none⟩), .bool is] [ai bf 90 [.int .i64 h.w, .int .i64 h.h, .int .i64 h.dep, .int .i64 h.ar, .bool h.ba, .slice pp pl.length cp, .slice pt tr.length ct, .slice pd nd cd, .slice none 0 0], R] (aF fun v G => ∃ pk nk ck K, (t = true → K = aa.aR h tr) ∧ K.length = nk ∧ v = .bool t ∧ G = [ai bf 90 [.int .i64 h.w, .int .i64 h.h, .int .i64 h.dep, .int .i64 h.ar, .bool h.ba, .slice pp pl.length cp, .slice pt tr.length ct, .slice pd nd cd, .slice pk nk ck], Row (aC 3 .i64) pk nk ck K, R]) := by
 cases is with
 | true => exact Bc h hd bf pp pl cp pt tr ct pd nd cd hpl htl hB R hR t ht
 | false =>
  have e := BF h hd bf pp pl cp pt tr ct pd nd cd hpl (hi rfl) htl hB t (ht.trans (decide_eq_true (aa.NU h pl tr)))
  refine (e.frame [R]).mono ?_
  rintro e2 G ⟨v, rfl, G', ⟨pk, nk, ck, K, h1, h2, h3, rfl⟩, rfl⟩
  exact ⟨_, rfl, pk, nk, ck, K, h1, h2, h3, rfl⟩
set_option maxHeartbeats 16000000 in
theorem r6 (p : Option Addr) (c : Nat) (B : List Int) (R : ad) (hR : ∀ w0 h, R w0 h → aE U5 p B.length B w0 h) (hl : B.length < 500000000) (hB : af.an B) (hcap : B.length ≤ c) (r : aa.oN × Int) (hr0 : aa.kt B r) : aA Tryz.prog 14 [.slice p B.length c] [R] (aF fun v G => ∃ q n c2, v = .tuple #[.agg #[.int .i64 r.1.w, .int .i64 r.1.h, .slice q n c2], .int .i64 r.2] ∧ r.1.bN.length = n ∧ n ≤ c2 ∧ G = [Row (aC 62 .u16) q n c2 r.1.bN, R]) := by
 refine au [(0, _)] Tryz.func14 rfl Tryz.ntmps14 rfl rfl ?_
 intro w0 F
 refine (Qt)<|(vF) ?_
 intro b2
 refine (Qg) ?_
 rcases (hr0.WD) with ⟨e, h1, hr⟩ | ⟨l, h1, ho, hr⟩ | ⟨l, h1, ho, hh, hr⟩ | ⟨l, h1, ho, hh, ht, hr⟩ | ⟨l, h1, ho, hh, ht, hc, hr⟩ | ⟨l, z, h1, ho, hh, ht, hc, hz, hr⟩
 ·refine (Q4) ?_
  refine aj (Pg p c B R hR hl hB hcap e h1) V.Vg  rfl (.cons ax .nil) rfl ?_
  rintro _ _ ⟨rfl, rfl⟩
  refine (Qp) ?_
  refine oV (c9 (cG rfl rfl) (aa.Nh h1))<|(Q3)<|(u4)<|(Q7)<|(Yj)<|(Q3) ?_
  subst hr
  exact ag (dU V.gJ rfl dC rfl rfl) ⟨none, 0, 0, rfl, rfl, Nat.le_refl _, rfl⟩ ((da (A := Row (aC 62 .u16) none 0 0 []) (fun w0 => Row.nil _ _ _)).trans (sub (aO .nil) bu))
 ·refine (Q4)<|(DX) ?_
  rintro _ _ ⟨q13, c13, es, rfl, hel, hco, rfl, rfl⟩
  refine (Qp)<|(oA)<|(Qc) ?_
  refine gu (fun w hi => eX hi (show Row CK q13 es.length c13 es ∈ _ by exact aB)) (fun hcq => ?_)
  refine (Q9)<|(Fo) ?_
  rintro _ _ ⟨rfl, rfl⟩
  rw [aa.lf ho]
  refine (Q1) ?_
  refine oV (c9 (cG rfl rfl) (by decide))<|(Q3)<|(u4)<|(Q7)<|(Rj)<|(Q3) ?_
  subst hr
  exact ag (dU V.gJ rfl gq rfl rfl) ⟨none, 0, 0, rfl, rfl, Nat.le_refl _, rfl⟩ ((da (A := Row (aC 62 .u16) none 0 0 []) (fun w0 => Row.nil _ _ _)).trans (sub (ao (.cons bo .nil)) ny))
 ·refine (Q4)<|(DX) ?_
  rintro _ _ ⟨q13, c13, es, rfl, hel, hco, rfl, rfl⟩
  refine (Qp)<|(oA)<|(Qc) ?_
  refine gu (fun w hi => eX hi (show Row CK q13 es.length c13 es ∈ _ by exact aB)) (fun hcq => ?_)
  refine (Q9)<|(Fo) ?_
  rintro _ _ ⟨rfl, rfl⟩
  rw [aa.pc ho]
  refine (Q1)<|(oA)<|(Q1) ?_
  have h3 : 0 < es.length := by have := aa.vZ ho; rw [List.length_map] at this; omega
  refine (HG)<|(oU)<|(IY)<|(H8) ?_
  rintro _ _ ⟨rfl, rfl⟩
  refine (Qg) ?_
  refine dh V.vC rfl ?_
  intro b7
  refine (vq)<|(Qc) ?_
  refine oV (c9 (cG rfl rfl) (by rw [← oG]; exact hh))<|(Q3)<|(u4)<|(Q7)<|(LX)<|(Q3) ?_
  rw [← oG]
  subst hr
  exact ag (dU V.gJ rfl jK rfl rfl) ⟨none, 0, 0, rfl, rfl, Nat.le_refl _, rfl⟩ ((da (A := Row (aC 62 .u16) none 0 0 []) (fun w0 => Row.nil _ _ _)).trans (sub (ao (.cons dk .nil)) kv))
 ·refine (Q4)<|(DX) ?_
  rintro _ _ ⟨q13, c13, es, rfl, hel, hco, rfl, rfl⟩
  refine (Qp)<|(oA)<|(Qc) ?_
  refine gu (fun w hi => eX hi (show Row CK q13 es.length c13 es ∈ _ by exact aB)) (fun hcq => ?_)
  refine (Q9)<|(Fo) ?_
  rintro _ _ ⟨rfl, rfl⟩
  rw [aa.pc ho]
  refine (Q1)<|(oA)<|(Q1) ?_
  have h3 : 0 < es.length := by have := aa.vZ ho; rw [List.length_map] at this; omega
  obtain ⟨h, hhd⟩ : ∃ h, h = aa.aL (aa.du (es.map Ce.ch)) := ⟨_, rfl⟩
  rw [← hhd] at ht
  obtain ⟨hde, hsz⟩ := aa.rk hh
  rw [← hhd] at hde hsz
  have hd := aa.gm hde
  have hcl := aa.uO h1
  refine (HG)<|(oU)<|(IY)<|(H8) ?_
  rintro _ _ ⟨rfl, rfl⟩
  rw [← oG, hh, aa.vQ hh, ← hhd]
  refine (Qg) ?_
  refine dh V.vC rfl ?_
  intro b7
  refine (vq)<|(Qc)<|(oA)<|(Ql)<|(NB) ?_
  rintro _ _ ⟨s, hs, rfl, rfl⟩
  refine (Q8) ?_
  refine dh V.I9 rfl ?_
  intro b8
  refine (Hx)<|(Q1)<|(Mf) ?_
  refine oV (bg V.gC rfl)<|(vq)<|(Q8) ?_
  obtain ⟨eP, eT, eD, ep, et⟩ := tQ hs ho
  have hso := hs
  obtain ⟨_, _, _, _, _, hcp, hct, hrP, hrT⟩ := hso
  have hBP : af.an s.P := eP ▸ aa.kF (aa.iY hB h1) _
  have hBT : af.an s.T := eT ▸ aa.kF (aa.iY hB h1) _
  have hBD : af.an s.D := eD ▸ aa.rF (aa.iY hB h1)
  have hlP : s.P.length < 500000000 := by rw [eP]; exact Nat.lt_of_le_of_lt aa.lJ (by omega)
  have hlT : s.T.length < 500000000 := by rw [eT]; exact Nat.lt_of_le_of_lt aa.lJ (by omega)
  have hlD : s.D.length < 500000000 := by rw [eD]; exact Nat.lt_of_le_of_lt (aa.ng _) (by omega)
  have hn0 : s.hp = false → s.P = [] := fun q => by rw [eP]; exact aa.nu (ep.symm.trans q)
  have hn1 : s.ht = false → s.T = [] := fun q => by rw [eT]; exact aa.nu (et.symm.trans q)
  rw [← eP, ← ep] at ht
  refine (Q9) ?_
  refine aj (qN h hd b8 s.pp s.P s.cp s.pt s.T s.ct s.pd s.D.length s.cd none 0 0 hlP s.hp false (decide_eq_false ht).symm) V.IH  rfl (ao .nil) rfl ?_
  rintro _ _ ⟨rfl, rfl⟩
  refine (Qp)<|(u4) ?_
  refine cA (bd V.gJ rfl rfl (us := [_, _, _]) rfl rfl (by exact VT) (by exact Nat.le_of_ble_eq_true rfl) rfl)<|(Q3) ?_
  subst hr
  exact ag (dU V.gJ rfl IL rfl rfl) ⟨none, 0, 0, rfl, rfl, Nat.le_refl _, rfl⟩ ((da (A := Row (aC 62 .u16) none 0 0 []) (fun w0 => Row.nil _ _ _)).trans (sub (ao (.cons jF .nil)) Vy))
 ·refine (Q4)<|(DX) ?_
  rintro _ _ ⟨q13, c13, es, rfl, hel, hco, rfl, rfl⟩
  refine (Qp)<|(oA)<|(Qc) ?_
  refine gu (fun w hi => eX hi (show Row CK q13 es.length c13 es ∈ _ by exact aB)) (fun hcq => ?_)
  refine (Q9)<|(Fo) ?_
  rintro _ _ ⟨rfl, rfl⟩
  rw [aa.pc ho]
  refine (Q1)<|(oA)<|(Q1) ?_
  have h3 : 0 < es.length := by have := aa.vZ ho; rw [List.length_map] at this; omega
  obtain ⟨h, hhd⟩ : ∃ h, h = aa.aL (aa.du (es.map Ce.ch)) := ⟨_, rfl⟩
  rw [← hhd] at ht
  obtain ⟨hde, hsz⟩ := aa.rk hh
  rw [← hhd] at hde hsz
  have hd := aa.gm hde
  have hcl := aa.uO h1
  refine (HG)<|(oU)<|(IY)<|(H8) ?_
  rintro _ _ ⟨rfl, rfl⟩
  rw [← oG, hh, aa.vQ hh, ← hhd]
  refine (Qg) ?_
  refine dh V.vC rfl ?_
  intro b7
  refine (vq)<|(Qc)<|(oA)<|(Ql)<|(NB) ?_
  rintro _ _ ⟨s, hs, rfl, rfl⟩
  refine (Q8) ?_
  refine dh V.I9 rfl ?_
  intro b8
  refine (Hx)<|(Q1)<|(Mf) ?_
  refine oV (bg V.gC rfl)<|(vq)<|(Q8) ?_
  obtain ⟨eP, eT, eD, ep, et⟩ := tQ hs ho
  have hso := hs
  obtain ⟨_, _, _, _, _, hcp, hct, hrP, hrT⟩ := hso
  have hBP : af.an s.P := eP ▸ aa.kF (aa.iY hB h1) _
  have hBT : af.an s.T := eT ▸ aa.kF (aa.iY hB h1) _
  have hBD : af.an s.D := eD ▸ aa.rF (aa.iY hB h1)
  have hlP : s.P.length < 500000000 := by rw [eP]; exact Nat.lt_of_le_of_lt aa.lJ (by omega)
  have hlT : s.T.length < 500000000 := by rw [eT]; exact Nat.lt_of_le_of_lt aa.lJ (by omega)
  have hlD : s.D.length < 500000000 := by rw [eD]; exact Nat.lt_of_le_of_lt (aa.ng _) (by omega)
  have hn0 : s.hp = false → s.P = [] := fun q => by rw [eP]; exact aa.nu (ep.symm.trans q)
  have hn1 : s.ht = false → s.T = [] := fun q => by rw [eT]; exact aa.nu (et.symm.trans q)
  rw [← eP, ← ep] at ht
  rw [← hhd, ← eP, ← eT, ← et] at hc
  refine rC TT 2 rfl ?_
  refine aj (qN h hd b8 s.pp s.P s.cp s.pt s.T s.ct s.pd s.D.length s.cd none 0 0 hlP s.hp true (decide_eq_true ht).symm) V.IH  rfl (ao .nil) rfl ?_
  rintro _ _ ⟨rfl, rfl⟩
  refine (Qd) ?_
  refine aj (yi h hd b8 s.pp s.P s.cp s.pt s.T s.ct s.pd s.D.length s.cd hlP hlT hBT (DK es) hrT s.ht hn1 false (decide_eq_false hc).symm) V.VE  rfl (ao (.cons bo .nil)) rfl ?_
  rintro _ _ ⟨pk, nk, ck, K, hK, hKn, rfl, rfl⟩
  refine (Qc)<|(u4) ?_
  refine cA (bd V.gJ rfl rfl (us := [_, _, _]) rfl rfl (by exact UP) (by exact Nat.le_of_ble_eq_true rfl) rfl)<|(Q3) ?_
  subst hr
  exact ag (dU V.gJ rfl Jo rfl rfl) ⟨none, 0, 0, rfl, rfl, Nat.le_refl _, rfl⟩ ((da (A := Row (aC 62 .u16) none 0 0 []) (fun w0 => Row.nil _ _ _)).trans (sub (ao (.cons oQ .nil)) Hw))
 ·refine (Q4)<|(DX) ?_
  rintro _ _ ⟨q13, c13, es, rfl, hel, hco, rfl, rfl⟩
  refine (Qp)<|(oA)<|(Qc) ?_
  refine gu (fun w hi => eX hi (show Row CK q13 es.length c13 es ∈ _ by exact aB)) (fun hcq => ?_)
  refine (Q9)<|(Fo) ?_
  rintro _ _ ⟨rfl, rfl⟩
  rw [aa.pc ho]
  refine (Q1)<|(oA)<|(Q1) ?_
  have h3 : 0 < es.length := by have := aa.vZ ho; rw [List.length_map] at this; omega
  obtain ⟨h, hhd⟩ : ∃ h, h = aa.aL (aa.du (es.map Ce.ch)) := ⟨_, rfl⟩
  rw [← hhd] at ht
  obtain ⟨hde, hsz⟩ := aa.rk hh
  rw [← hhd] at hde hsz
  have hd := aa.gm hde
  have hcl := aa.uO h1
  refine (HG)<|(oU)<|(IY)<|(H8) ?_
  rintro _ _ ⟨rfl, rfl⟩
  rw [← oG, hh, aa.vQ hh, ← hhd]
  refine (Qg) ?_
  refine dh V.vC rfl ?_
  intro b7
  refine (vq)<|(Qc)<|(oA)<|(Ql)<|(NB) ?_
  rintro _ _ ⟨s, hs, rfl, rfl⟩
  refine (Q8) ?_
  refine dh V.I9 rfl ?_
  intro b8
  refine (Hx)<|(Q1)<|(Mf) ?_
  refine oV (bg V.gC rfl)<|(vq)<|(Q8) ?_
  obtain ⟨eP, eT, eD, ep, et⟩ := tQ hs ho
  have hso := hs
  obtain ⟨_, _, _, _, _, hcp, hct, hrP, hrT⟩ := hso
  have hBP : af.an s.P := eP ▸ aa.kF (aa.iY hB h1) _
  have hBT : af.an s.T := eT ▸ aa.kF (aa.iY hB h1) _
  have hBD : af.an s.D := eD ▸ aa.rF (aa.iY hB h1)
  have hlP : s.P.length < 500000000 := by rw [eP]; exact Nat.lt_of_le_of_lt aa.lJ (by omega)
  have hlT : s.T.length < 500000000 := by rw [eT]; exact Nat.lt_of_le_of_lt aa.lJ (by omega)
  have hlD : s.D.length < 500000000 := by rw [eD]; exact Nat.lt_of_le_of_lt (aa.ng _) (by omega)
  have hn0 : s.hp = false → s.P = [] := fun q => by rw [eP]; exact aa.nu (ep.symm.trans q)
  have hn1 : s.ht = false → s.T = [] := fun q => by rw [eT]; exact aa.nu (et.symm.trans q)
  rw [← eP, ← ep] at ht
  rw [← hhd, ← eP, ← eT, ← et] at hc
  refine rC TT 2 rfl ?_
  refine aj (qN h hd b8 s.pp s.P s.cp s.pt s.T s.ct s.pd s.D.length s.cd none 0 0 hlP s.hp true (decide_eq_true ht).symm) V.IH  rfl (ao .nil) rfl ?_
  rintro _ _ ⟨rfl, rfl⟩
  refine (Qd) ?_
  refine aj (yi h hd b8 s.pp s.P s.cp s.pt s.T s.ct s.pd s.D.length s.cd hlP hlT hBT (DK es) hrT s.ht hn1 true (decide_eq_true hc).symm) V.VE  rfl (ao (.cons bo .nil)) rfl ?_
  rintro _ _ ⟨pk, nk, ck, K, hK, rfl, rfl, rfl⟩
  obtain rfl := hK rfl
  refine (Ql) ?_
  refine gu (fun w hi => eX hi (show Row U5 s.pd s.D.length s.cd s.D ∈ _ by exact gq)) (fun hcD => ?_)
  refine (Qo) ?_
  refine aj (M8 h b8 s.pp s.P s.cp s.pt s.T s.ct s.pd s.cd pk ck (DK es) hrP hrT hcp hBP hBT hlP hlT (Row (aC 3 .i64) pk (aa.aR h s.T).length ck (aa.aR h s.T)) (fun _ _ hh => hh.rd) (aa.K6 hde hBP hBT hlP hlT ht hc hn0 hn1) hsz s.D hBD hlD hcD (Row U5 s.pd s.D.length s.cd s.D) (fun _ _ hh => hh.rd) z (by rw [eD, hhd]; exact hz)) V.Zg  rfl (aO (.cons ax (.cons dj .nil))) rfl ?_
  rintro _ _ ⟨q55, n55, c55, rfl, hn55, hc55, rfl⟩
  refine (Q6)<|(LX)<|(Q8) ?_
  rw [aa.PI hhd eP eT] at hr
  subst hr
  exact ag (dU V.gJ rfl jK rfl rfl) ⟨q55, n55, c55, rfl, hn55, hc55, rfl⟩ (sub (ao (.cons bo .nil)) ny)
end Go.Proofs.YtmaiakpjgomnpaaGreat
namespace Go.Proofs.YtmaiakpjgomnpaaGreat
open Go.Sl
theorem V.X9 : ay Tryz.prog 35 = true := by kernel_rfl
end Go.Proofs.YtmaiakpjgomnpaaGreat
namespace Go.Proofs.YtmaiakpjgomnpaaGreat
open Go.Sl 
attribute [local irreducible] af.an aa.aW aa.bO aa.deep aa.parts HW aa.aR aa.fS aa.dX aa.fz aa.dW aa.eb aa.kN aa.ka aa.eB aa.dE aa.eA aa.k8 aa.want aa.aN aa.kG aa.mQ aa.mO aa.jd aG.lR aa.aZ aa.aT aa.aQ aa.aY aa.bR aa.eJ aa.ir aa.iO aa.mb aa.bW aa.cJ aa.cut aa.du aa.oD aa.bC aa.dV
theorem JN (w h : Int) (hs : aa.aW w h = 0) : aA Tryz.prog 35 [.int .i64 w, .int .i64 h] [] (aF fun v G => ∃ b : Nat, v = .tuple #[.agg #[.int .i64 w, .int .i64 h, .slice (some ⟨b, 0, none⟩) ((4 * w * h).toNat) ((4 * w * h).toNat)], .int .i64 0] ∧ G = [Row (aC 62 .u16) (some ⟨b, 0, none⟩) ((4 * w * h).toNat) ((4 * w * h).toNat) (List.replicate ((4 * w * h).toNat) 0)]) := by
  refine (SI w h).mono ?_
  rintro e2 G ⟨v, rfl, (⟨h1, _⟩ | ⟨_, b, rfl, rfl⟩)⟩
  · exact absurd hs h1
  · exact ⟨_, rfl, b, rfl, rfl⟩
end Go.Proofs.YtmaiakpjgomnpaaGreat
namespace Go.Proofs.YtmaiakpjgomnpaaGreat
open Go.Sl
theorem V.YJ : ay Tryz.prog 62 = true := by kernel_rfl
end Go.Proofs.YtmaiakpjgomnpaaGreat
