/- Walks of functions that the law reaches, and what they lean on; no conditions. -/
import Derived.Test.YtmaiakpjgomnpaaGreatM0
import Derived.Test.YtmaiakpjgomnpaaGreatM4
import Derived.Test.YtmaiakpjgomnpaaGreatM2
import Derived.Test.YtmaiakpjgomnpaaGreatM1
import Derived.KernelRfl
import Derived.Test.YtmaiakpjgomnpaaGreatM7
set_option linter.unusedVariables false
set_option linter.unusedSimpArgs false
set_option maxRecDepth 100000
namespace Go.Proofs.YtmaiakpjgomnpaaGreat
open Go.Sl 
attribute [local irreducible] af.ak aa.aW aa.up aa.bM aa.fJ aa.D2 aa.deep aa.parts HW aa.aR aa.fy aa.dJ aa.pf aa.ky aa.fu
set_option maxHeartbeats 1000000 in
theorem Ac (p1 : Option Addr) (n1 c1 : Nat) (L1 : List Int) (hn1 : L1.length = n1) (R1 : ab) (hR1 : ∀ w0 h, R1 w0 h → aE (aD 3 .i64) p1 n1 L1 w0 h) (p2 : Option Addr) (n2 c2 : Nat) (L2 : List Int) (hn2 : L2.length = n2) (R2 : ab) (hR2 : ∀ w0 h, R2 w0 h → aE (aD 3 .i64) p2 n2 L2 w0 h) (hs1 : n1 ≤ 100000000) (t : Bool) (ht : t = decide (L1 = L2)) : aC Tryz.prog 173 [.slice p1 n1 c1, .slice p2 n2 c2] [R1, R2] (aG fun v G => v = .bool t ∧ G = [R1, R2]) := by
  refine au [(0, _), (1, _)] Tryz.func173 rfl Tryz.ntmps173 rfl rfl ?_
  intro w0 F
  refine (QI) ?_
  rcases (Classical.em (n1 = n2)) with hne0 | hne0
  ·
    refine (Qp)<|(Al)<|(QP) ?_
    refine cB (fun (i : Nat) => [(0, .slice p1 n1 c1), (1, .slice p2 n2 c2), (12, .int .i64 (n1 : Int)), (13, .int .i64 (i : Int))]) (fun (i : Nat) => R1 :: R2 :: F) (fun (i : Nat) => i ≤ n1 ∧ ∀ j, j < i → L1.getD j 0 = L2.getD j 0) (fun (i : Nat) => n1 - i) (i1 (0) ?_ (eQ ln) (sub (aT .nil) ao)) ?_
    ·
      exact ⟨Nat.zero_le _, fun j hj => by omega⟩
    intro i
    rintro ⟨hi, hall⟩
    refine (Qm) ?_
    refine aF rfl (fun h14 => ?_) (fun h14 => ?_)
    ·
      refine (QB) ?_
      rcases (Classical.em (((aD 3 .i64).g L1 (i : Int)) ≠ ((aD 3 .i64).g L2 (i : Int)))) with hne | hne
      ·
        refine (Q9)<|(rJ) ?_
        refine rR TT 2 rfl<|(Vm) ?_
        refine rR TT 2 rfl<|(VW) ?_
        refine oR (cJ (cE rfl rfl) hne)<|Rg.df<|rN TT 13 rfl ?_
        obtain rfl : t = false := ht.trans (decide_eq_false (aa.Jv hne))
        exact ag (aw rfl) ⟨rfl, rfl⟩ (sub (aT .nil) ao)
      ·
        refine (Q9)<|(rJ) ?_
        refine rR TT 2 rfl<|(Vm) ?_
        refine rR TT 2 rfl<|(VW) ?_
        refine oR (bR (cE rfl rfl) hne)<|Rg.df<|OW TT 9 rfl (by omega) ?_
        refine j1 (i + 1) ?_ (eQ ln) (sub (aT .nil) ao)
        exact ⟨⟨by omega, fun j hj => (Nat.lt_succ_iff_lt_or_eq.1 hj).elim (hall j) (fun e => e ▸ Classical.not_not.1 hne)⟩, by omega⟩
    ·
      refine (nS) ?_
      obtain rfl : t = true := ht.trans (decide_eq_true (aa.C1 (by omega) (fun j hj => hall j (by omega))))
      exact ag (aw rfl) ⟨rfl, rfl⟩ (sub (aT .nil) ao)
  ·
    refine (Qp)<|(PA)<|(Qi) ?_
    obtain rfl : t = false := ht.trans (decide_eq_false (fun e => hne0 (by rw [← hn1, ← hn2, e])))
    exact ag (aw rfl) ⟨rfl, rfl⟩ (sub (aT .nil) ao)
set_option maxHeartbeats 2000000 in
theorem BM (h : aa.Hd) (bf : Nat) (pp : Option Addr) (pl : List Int) (cp : Nat) (pt : Option Addr) (tr : List Int) (ct : Nat) (pd : Option Addr) (nd cd : Nat) (pk : Option Addr) (nk ck : Nat) (R : ab) (hP : ∀ w0 h, R w0 h → aE U5 pp pl.length pl w0 h) (hT : ∀ w0 h, R w0 h → aE U5 pt tr.length tr w0 h) (hcp : pl.length ≤ cp) (hB : af.ak pl) (hBt : af.ak tr) (hpl : pl.length < 500000000) (htl : tr.length < 500000000) (k : Nat) (hk : pl.length / 3 ≤ k) (hkb : k < 100000000) : aC Tryz.prog 171 [.pointer (some ⟨bf, 0, none⟩), .int .i64 (k : Int)] [ai bf 90 [.int .i64 h.w, .int .i64 h.h, .int .i64 h.dep, .int .i64 h.ar, .bool h.aZ, .slice pp pl.length cp, .slice pt tr.length ct, .slice pd nd cd, .slice pk nk ck], R] (aG fun v G => v = .tuple #[.agg #[.int .u16 0, .int .u16 0, .int .u16 0, .int .u16 0], .bool false] ∧ G = [ai bf 90 [.int .i64 h.w, .int .i64 h.h, .int .i64 h.dep, .int .i64 h.ar, .bool h.aZ, .slice pp pl.length cp, .slice pt tr.length ct, .slice pd nd cd, .slice pk nk ck], R]) := by
  refine au [(0, _), (1, _)] Tryz.func171 rfl Tryz.ntmps171 rfl rfl ?_
  intro w0 F
  refine (Qr)<|(ry) ?_
  intro b4
  refine (Qi)<|(vo)<|(oN)<|(pT)<|(QN)<|(Q3) ?_
  refine oV (iM V.m9 V.tt rfl (cs := [_, _, _, _]) rfl)<|(EK)<|(Q3) ?_
  exact ag (dO V.kA rfl aA rfl rfl) ⟨rfl, rfl⟩ (sub (.cons ay (.cons ay .nil)) bC)
set_option maxHeartbeats 2000000 in
theorem Cl (h : aa.Hd) (bf : Nat) (pp : Option Addr) (pl : List Int) (cp : Nat) (pt : Option Addr) (tr : List Int) (ct : Nat) (pd : Option Addr) (nd cd : Nat) (pk : Option Addr) (nk ck : Nat) (R : ab) (hP : ∀ w0 h, R w0 h → aE U5 pp pl.length pl w0 h) (hT : ∀ w0 h, R w0 h → aE U5 pt tr.length tr w0 h) (hcp : pl.length ≤ cp) (hB : af.ak pl) (hBt : af.ak tr) (hpl : pl.length < 500000000) (htl : tr.length < 500000000) (k : Nat) (hk : ¬ pl.length / 3 ≤ k) : aC Tryz.prog 171 [.pointer (some ⟨bf, 0, none⟩), .int .i64 (k : Int)] [ai bf 90 [.int .i64 h.w, .int .i64 h.h, .int .i64 h.dep, .int .i64 h.ar, .bool h.aZ, .slice pp pl.length cp, .slice pt tr.length ct, .slice pd nd cd, .slice pk nk ck], R] (aG fun v G => v = .tuple #[.agg #[.int .u16 ((pl.drop (3 * k)).getD 0 0 * 257), .int .u16 ((pl.drop (3 * k)).getD 1 0 * 257), .int .u16 ((pl.drop (3 * k)).getD 2 0 * 257), .int .u16 (if k < tr.length then tr.getD k 0 * 257 else 65535)], .bool true] ∧ G = [ai bf 90 [.int .i64 h.w, .int .i64 h.h, .int .i64 h.dep, .int .i64 h.ar, .bool h.aZ, .slice pp pl.length cp, .slice pt tr.length ct, .slice pd nd cd, .slice pk nk ck], R]) := by
  refine au [(0, _), (1, _)] Tryz.func171 rfl Tryz.ntmps171 rfl rfl ?_
  intro w0 F
  have hBd := aa.dT hB (3 * k)
  have hS : ∀ w0 h, R w0 h → aE U5 (dm pp (3 * k) cp 1) (pl.length - 3 * k) (pl.drop (3 * k)) w0 h := fT (c := U5) hP rfl (3 * k) cp (by omega) hcp
  have hPl : (pl.drop (3 * k)).length = pl.length - 3 * k := List.length_drop
  refine (Qr)<|(ry) ?_
  intro b4
  refine (Qi)<|(vo)<|(oN)<|(pT)<|(oI)<|(Qi)<|(vo)<|(Q6) ?_
  refine oV (de (v := .int .i64 ((3 * k : Nat) : Int)) (fP (r := 3 * (k : Int)) rfl rfl wI) (congrArg (Value.int .i64) (by omega)))<|oV (dY (3 * k) pl.length cp V.bK rfl ⟨_, rfl⟩ ⟨rfl, rfl⟩ rfl (by omega) (by omega) (by omega))<|(Qj) ?_
  refine kP (fun (al : Int) => [(4, .pointer (some ⟨b4, 0, none⟩)), (6, .slice (dm pp (3 * k) cp 1) (pl.length - 3 * k) (cp - 3 * k)), (7, .int .u16 al)]) (fun (al : Int) => ai b4 68 [.int .u16 0, .int .u16 0, .int .u16 0, .int .u16 0] :: ai bf 90 [.int .i64 h.w, .int .i64 h.h, .int .i64 h.dep, .int .i64 h.ar, .bool h.aZ, .slice pp pl.length cp, .slice pt tr.length ct, .slice pd nd cd, .slice pk nk ck] :: R :: F) (fun (al : Int) => al = (if k < tr.length then tr.getD k 0 * 257 else 65535)) ?_ ?_
  ·
    rcases (Classical.em (k < tr.length)) with hkt | hkt
    ·
      refine (Qm)<|(vo)<|(oN)<|(QO)<|(Qc)<|(vo)<|(Q6) ?_
      refine oV (xI V.bK (by exact bG hT dL))<|oV (xL V.s5 (by exact bG hT dL))<|aj (s7 (U5.g tr (k : Int)) (hBt.get k)) V.BR  rfl .nil rfl ?_
      rintro _ _ ⟨rfl, rfl⟩
      refine (Q7) ?_
      refine j1 (_) ?_ (fz ln) (sub (fQ .nil) ao)
      exact (if_pos hkt).symm
    ·
      refine (Qm)<|(vo)<|(oN)<|(QM)<|(Q8) ?_
      refine j1 (_) ?_ (fz ln) (sub (fQ .nil) ao)
      exact (if_neg hkt).symm
  ·
    intro al
    rintro hal
    refine rC TT 1 rfl ?_
    refine wN [pz 0 [] [6], pz 1 [0] [], pz 3 [1] [], pz 7 [2] [], pz 0 [] [6], pz 16 [4] [], pz 48 [5] [], pz 127 [6] [], pz 0 [] [6], pz 256 [8] [], pz 768 [9] [], pz 2047 [10] [], pz 0 [] [7], pz 8191 [3, 7, 11, 12] [], pz 16383 [13] [4], pz 32767 [] []] [⟨fun y => ai b4 68 [.int .u16 0, .int .u16 0, .int .u16 0, .int .u16 0], none, some 14, []⟩, ⟨fun y => ai bf 90 [.int .i64 h.w, .int .i64 h.h, .int .i64 h.dep, .int .i64 h.ar, .bool h.aZ, .slice pp pl.length cp, .slice pt tr.length ct, .slice pd nd cd, .slice pk nk ck], none, none, []⟩, ⟨fun y => R, none, none, [1, 2, 5, 6, 9, 10]⟩, ⟨fun y => ai b4 68 [.int .u16 (U5.g (pl.drop (3 * k)) 0 * 257), .int .u16 (U5.g (pl.drop (3 * k)) 1 * 257), .int .u16 (U5.g (pl.drop (3 * k)) 2 * 257), .int .u16 al], some 14, none, []⟩] F V.mixed ?_
    refine nM ?_
    refine nR (fun y FF hA => xI V.bK (by exact bG hS aA)) ?_
    refine nR (fun y FF hA => xL V.s5 (by exact bG hS aA)) ?_
    refine nE (fun y FF hA => aX (Post := []) (s7 (U5.g (pl.drop (3 * k)) 0) (hBd.get 0)) V.BR rfl .nil (fun v G h => by rcases h with ⟨rfl, rfl⟩; exact ⟨rfl, .refl _⟩)) ?_
    refine nM ?_
    refine nR (fun y FF hA => xI V.bK (by exact bG hS aA)) ?_
    refine nR (fun y FF hA => xL V.s5 (by exact bG hS aA)) ?_
    refine nE (fun y FF hA => aX (Post := []) (s7 (U5.g (pl.drop (3 * k)) 1) (hBd.get 1)) V.BR rfl .nil (fun v G h => by rcases h with ⟨rfl, rfl⟩; exact ⟨rfl, .refl _⟩)) ?_
    refine nM ?_
    refine nR (fun y FF hA => xI V.bK (by exact bG hS aA)) ?_
    refine nR (fun y FF hA => xL V.s5 (by exact bG hS aA)) ?_
    refine nE (fun y FF hA => aX (Post := []) (s7 (U5.g (pl.drop (3 * k)) 2) (hBd.get 2)) V.BR rfl .nil (fun v G h => by rcases h with ⟨rfl, rfl⟩; exact ⟨rfl, .refl _⟩)) ?_
    refine nM ?_
    refine nV (fun y hA L => iM V.m9 V.tt rfl (cs := [.int .u16 (U5.g (pl.drop (3 * k)) 0 * 257), .int .u16 (U5.g (pl.drop (3 * k)) 1 * 257), .int .u16 (U5.g (pl.drop (3 * k)) 2 * 257), .int .u16 al]) (by kernel_rfl)) ?_
    refine nE (fun y FF hA => dE (bd V.kA rfl rfl (us := [_, _, _, _]) rfl rfl (by exact fW) (by exact Nat.le_of_ble_eq_true rfl) rfl) ⟨rfl, .refl _⟩) ?_
    refine nA ?_
    refine cN ?_
    intro y hA
    clear hA
    refine bg<|(VO) ?_
    refine bb (M := ai bf 90 [.int .i64 h.w, .int .i64 h.h, .int .i64 h.dep, .int .i64 h.ar, .bool h.aZ, .slice pp pl.length cp, .slice pt tr.length ct, .slice pd nd cd, .slice pk nk ck] :: R :: ai b4 68 [.int .u16 (U5.g (pl.drop (3 * k)) 0 * 257), .int .u16 (U5.g (pl.drop (3 * k)) 1 * 257), .int .u16 (U5.g (pl.drop (3 * k)) 2 * 257), .int .u16 al] :: F) (fun _ _ h => h)<|(Q9) ?_
    exact ag (dO V.kA rfl dL rfl rfl) ⟨by rw [← hal]; rfl, rfl⟩ (sub (aT .nil) bC)
set_option maxHeartbeats 4000000 in
theorem El (h : aa.Hd) (bf : Nat) (pp : Option Addr) (pl : List Int) (cp : Nat) (pt : Option Addr) (tr : List Int) (ct : Nat) (pd : Option Addr) (nd cd : Nat) (pk : Option Addr) (ck : Nat) (R : ab) (hP : ∀ w0 h, R w0 h → aE U5 pp pl.length pl w0 h) (hT : ∀ w0 h, R w0 h → aE U5 pt tr.length tr w0 h) (hcp : pl.length ≤ cp) (hB : af.ak pl) (hBt : af.ak tr) (hpl : pl.length < 500000000) (htl : tr.length < 500000000) (pv : Option Addr) (cv : Nat) (v : List Int) (Rk Rv : ab) (hRk : ∀ w0 h_, Rk w0 h_ → aE (aD 3 .i64) pk (aa.aR h tr).length (aa.aR h tr) w0 h_) (hRv : ∀ w0 h_, Rv w0 h_ → aE (aD 3 .i64) pv v.length v w0 h_) (hf : aa.fu ⟨h, pl, tr⟩) (hvl : v.length = (aa.parts h.ar).toNat) (hvx : ∀ x ∈ v, 0 ≤ x ∧ x < 2 ^ h.dep.toNat) (h3 : h.ar = 3) (k : Nat) (hk0 : v.getD 0 0 = (k : Int)) (hkb : k < 100000000) (hk : pl.length / 3 ≤ k) : aC Tryz.prog 151 [.pointer (some ⟨bf, 0, none⟩), .slice pv v.length cv] [ai bf 90 [.int .i64 h.w, .int .i64 h.h, .int .i64 h.dep, .int .i64 h.ar, .bool h.aZ, .slice pp pl.length cp, .slice pt tr.length ct, .slice pd nd cd, .slice pk (aa.aR h tr).length ck], Rk, Rv, R] (aG fun e G => e = .tuple #[.agg #[.int .u16 0, .int .u16 0, .int .u16 0, .int .u16 0], .bool false] ∧ G = [ai bf 90 [.int .i64 h.w, .int .i64 h.h, .int .i64 h.dep, .int .i64 h.ar, .bool h.aZ, .slice pp pl.length cp, .slice pt tr.length ct, .slice pd nd cd, .slice pk (aa.aR h tr).length ck], Rk, Rv, R]) := by
  refine (Si) ?_
  intro w0 F
  have hde : aa.deep h.ar h.dep := by unfold aa.fu at hf; exact hf.1
  have hpc := aa.gi hde
  have hd := aa.gp hde
  have hUl : (v.map (aa.up h.dep)).length = v.length := List.length_map ..
  have hdi := aa.iU hd
  refine (Qr)<|(ry) ?_
  intro b4
  refine (Qi)<|(QU)<|(QD)<|(Qc)<|(V1) ?_
  rw [show (aD 3 .i64).g v 0 = (k : Int) from hk0]
  refine aj (BM h bf pp pl cp pt tr ct pd nd cd pk (aa.aR h tr).length ck R hP hT hcp hB hBt hpl htl k hk (by omega)) V.RF  rfl (.cons ay (.cons dw .nil)) rfl ?_
  rintro _ _ ⟨rfl, rfl⟩
  refine (Q7)<|(WN)<|(Q3) ?_
  exact ag (dO V.kA rfl dL rfl rfl) ⟨rfl, rfl⟩ (sub (aq (.cons bj (.cons bj (.cons dg .nil)))) bC)
set_option maxHeartbeats 4000000 in
theorem Ft (h : aa.Hd) (bf : Nat) (pp : Option Addr) (pl : List Int) (cp : Nat) (pt : Option Addr) (tr : List Int) (ct : Nat) (pd : Option Addr) (nd cd : Nat) (pk : Option Addr) (ck : Nat) (R : ab) (hP : ∀ w0 h, R w0 h → aE U5 pp pl.length pl w0 h) (hT : ∀ w0 h, R w0 h → aE U5 pt tr.length tr w0 h) (hcp : pl.length ≤ cp) (hB : af.ak pl) (hBt : af.ak tr) (hpl : pl.length < 500000000) (htl : tr.length < 500000000) (pv : Option Addr) (cv : Nat) (v : List Int) (Rk Rv : ab) (hRk : ∀ w0 h_, Rk w0 h_ → aE (aD 3 .i64) pk (aa.aR h tr).length (aa.aR h tr) w0 h_) (hRv : ∀ w0 h_, Rv w0 h_ → aE (aD 3 .i64) pv v.length v w0 h_) (hf : aa.fu ⟨h, pl, tr⟩) (hvl : v.length = (aa.parts h.ar).toNat) (hvx : ∀ x ∈ v, 0 ≤ x ∧ x < 2 ^ h.dep.toNat) (h3 : h.ar = 3) (k : Nat) (hk0 : v.getD 0 0 = (k : Int)) (hkb : k < 100000000) (hk : ¬ pl.length / 3 ≤ k) : aC Tryz.prog 151 [.pointer (some ⟨bf, 0, none⟩), .slice pv v.length cv] [ai bf 90 [.int .i64 h.w, .int .i64 h.h, .int .i64 h.dep, .int .i64 h.ar, .bool h.aZ, .slice pp pl.length cp, .slice pt tr.length ct, .slice pd nd cd, .slice pk (aa.aR h tr).length ck], Rk, Rv, R] (aG fun e G => e = .tuple #[.agg #[.int .u16 ((pl.drop (3 * k)).getD 0 0 * 257), .int .u16 ((pl.drop (3 * k)).getD 1 0 * 257), .int .u16 ((pl.drop (3 * k)).getD 2 0 * 257), .int .u16 (if k < tr.length then tr.getD k 0 * 257 else 65535)], .bool true] ∧ G = [ai bf 90 [.int .i64 h.w, .int .i64 h.h, .int .i64 h.dep, .int .i64 h.ar, .bool h.aZ, .slice pp pl.length cp, .slice pt tr.length ct, .slice pd nd cd, .slice pk (aa.aR h tr).length ck], Rk, Rv, R]) := by
  refine (Si) ?_
  intro w0 F
  have hde : aa.deep h.ar h.dep := by unfold aa.fu at hf; exact hf.1
  have hpc := aa.gi hde
  have hd := aa.gp hde
  have hUl : (v.map (aa.up h.dep)).length = v.length := List.length_map ..
  have hdi := aa.iU hd
  refine (Qr)<|(ry) ?_
  intro b4
  refine (Qi)<|(QU)<|(QD)<|(Qc)<|(V1) ?_
  rw [show (aD 3 .i64).g v 0 = (k : Int) from hk0]
  refine aj (Cl h bf pp pl cp pt tr ct pd nd cd pk (aa.aR h tr).length ck R hP hT hcp hB hBt hpl htl k hk) V.RF  rfl (.cons ay (.cons dw .nil)) rfl ?_
  rintro _ _ ⟨rfl, rfl⟩
  refine (Q7)<|(WN)<|(Q3) ?_
  exact ag (dO V.kA rfl dL rfl rfl) ⟨rfl, rfl⟩ (sub (aq (.cons bj (.cons bj (.cons dg .nil)))) bC)
set_option maxHeartbeats 4000000 in
theorem FP (h : aa.Hd) (bf : Nat) (pp : Option Addr) (pl : List Int) (cp : Nat) (pt : Option Addr) (tr : List Int) (ct : Nat) (pd : Option Addr) (nd cd : Nat) (pk : Option Addr) (ck : Nat) (R : ab) (hP : ∀ w0 h, R w0 h → aE U5 pp pl.length pl w0 h) (hT : ∀ w0 h, R w0 h → aE U5 pt tr.length tr w0 h) (hcp : pl.length ≤ cp) (hB : af.ak pl) (hBt : af.ak tr) (hpl : pl.length < 500000000) (htl : tr.length < 500000000) (pv : Option Addr) (cv : Nat) (v : List Int) (Rk Rv : ab) (hRk : ∀ w0 h_, Rk w0 h_ → aE (aD 3 .i64) pk (aa.aR h tr).length (aa.aR h tr) w0 h_) (hRv : ∀ w0 h_, Rv w0 h_ → aE (aD 3 .i64) pv v.length v w0 h_) (hf : aa.fu ⟨h, pl, tr⟩) (hvl : v.length = (aa.parts h.ar).toNat) (hvx : ∀ x ∈ v, 0 ≤ x ∧ x < 2 ^ h.dep.toNat) (h3 : ¬ h.ar = 3) (c0 c1 c2 c3 : Int) (hpx : aa.fy ⟨h, pl, tr⟩ v = some [c0, c1, c2, c3]) : aC Tryz.prog 151 [.pointer (some ⟨bf, 0, none⟩), .slice pv v.length cv] [ai bf 90 [.int .i64 h.w, .int .i64 h.h, .int .i64 h.dep, .int .i64 h.ar, .bool h.aZ, .slice pp pl.length cp, .slice pt tr.length ct, .slice pd nd cd, .slice pk (aa.aR h tr).length ck], Rk, Rv, R] (aG fun e G => e = .tuple #[.agg #[.int .u16 c0, .int .u16 c1, .int .u16 c2, .int .u16 c3], .bool true] ∧ G = [ai bf 90 [.int .i64 h.w, .int .i64 h.h, .int .i64 h.dep, .int .i64 h.ar, .bool h.aZ, .slice pp pl.length cp, .slice pt tr.length ct, .slice pd nd cd, .slice pk (aa.aR h tr).length ck], Rk, Rv, R]) := by
  refine (Si) ?_
  intro w0 F
  have hde : aa.deep h.ar h.dep := by unfold aa.fu at hf; exact hf.1
  have hpc := aa.gi hde
  have hd := aa.gp hde
  have hUl : (v.map (aa.up h.dep)).length = v.length := List.length_map ..
  have hdi := aa.iU hd
  refine (Qr)<|(ry) ?_
  intro b4
  refine (Qi)<|(QU)<|(QC) ?_
  refine rO TT 19 rfl<|jk (Row (aD 62 .u16) none 0 0 []) (Row.nil _ _ _) ?_
  rw [show ([] : List Int) = (v.map (aa.up h.dep)).take 0 from rfl]
  refine gM (fun (i : Nat) (ps : Option Addr) (cs : Nat) => [(0, .pointer (some ⟨bf, 0, none⟩)), (1, .slice pv v.length cv), (4, .pointer (some ⟨b4, 0, none⟩)), (6, .slice ps i cs), (25, .slice pv v.length cv), (26, .int .i64 (v.length : Int)), (27, .int .i64 (i : Int))]) (fun (i : Nat) (ps : Option Addr) (cs : Nat) => Row (aD 62 .u16) ps i cs ((v.map (aa.up h.dep)).take i) :: ai b4 68 [.int .u16 0, .int .u16 0, .int .u16 0, .int .u16 0] :: ai bf 90 [.int .i64 h.w, .int .i64 h.h, .int .i64 h.dep, .int .i64 h.ar, .bool h.aZ, .slice pp pl.length cp, .slice pt tr.length ct, .slice pd nd cd, .slice pk (aa.aR h tr).length ck] :: Rk :: Rv :: R :: F) (fun (i : Nat) (ps : Option Addr) (cs : Nat) => i ≤ v.length) (fun (i : Nat) (ps : Option Addr) (cs : Nat) => v.length - i) (i3 (0) (none) (0) ?_ (jg (bN ln)) (sub (aq (kp .nil)) ao)) ?_
  ·
    exact Nat.zero_le _
  intro i ps cs
  rintro hi
  refine (Qm) ?_
  refine aF rfl (fun h28 => ?_) (fun h28 => ?_)
  ·
    refine (Qg) ?_
    have hvi : 0 ≤ ((aD 3 .i64).g v (i : Int)) ∧ ((aD 3 .i64).g v (i : Int)) < 2 ^ h.dep.toNat := hvx _ (aa.hG (by omega))
    refine (Qo) ?_
    refine oV (xI V.cA (by exact bG hRv jB))<|oV (xL V.s3 (by exact bG hRv jB))<|(Qi)<|(sU) ?_
    refine aj (NF h.dep ((aD 3 .i64).g v (i : Int)) hd hvi) V.Og  rfl .nil rfl ?_
    rintro _ _ ⟨rfl, rfl⟩
    refine (Qi) ?_
    refine cM (aD 62 .u16) [(aa.up h.dep ((aD 3 .i64).g v (i : Int)))] V.ga V.EZ rfl rfl rfl rfl rfl rfl ?_
    intro b43
    refine ff (c := (aD 62 .u16)) V.ga V.EZ rfl rfl rfl rfl ay (own aA) (by omega) rfl ?_
    intro p44 c44
    refine (QG) ?_
    rw [show (v.map (aa.up h.dep)).take i ++ [aa.up h.dep ((aD 3 .i64).g v (i : Int))] = (v.map (aa.up h.dep)).take (i + 1) from aa.BY (by omega)]
    exact j3 (i + 1) _ _ ⟨by omega, by omega⟩ (jg (bN ln)) (sub (aq (.cons ay (.cons ay (.cons ay (.cons ay (.cons ay .nil)))))) bC)
  ·
    refine (Qd) ?_
    obtain rfl : i = v.length := by omega
    rw [List.take_of_length_le (by omega)]
    refine (Q5) ?_
    refine kP (fun (al : Int) => [(0, .pointer (some ⟨bf, 0, none⟩)), (1, .slice pv v.length cv), (4, .pointer (some ⟨b4, 0, none⟩)), (6, .slice ps v.length cs), (11, .int .u16 al)]) (fun (al : Int) => Row (aD 62 .u16) ps v.length cs (v.map (aa.up h.dep)) :: ai b4 68 [.int .u16 0, .int .u16 0, .int .u16 0, .int .u16 0] :: ai bf 90 [.int .i64 h.w, .int .i64 h.h, .int .i64 h.dep, .int .i64 h.ar, .bool h.aZ, .slice pp pl.length cp, .slice pt tr.length ct, .slice pd nd cd, .slice pk (aa.aR h tr).length ck] :: Rk :: Rv :: R :: F) (fun (al : Int) => al = (if h.ar = 4 ∨ h.ar = 6 then (v.map (aa.up h.dep)).getD ((v.map (aa.up h.dep)).length - 1) 0 else 65535)) ?_ ?_
    ·
      rcases ((by omega : h.ar = 4 ∨ (¬ h.ar = 4 ∧ h.ar = 6) ∨ (¬ h.ar = 4 ∧ ¬ h.ar = 6))) with a1 | ⟨a1, a2⟩ | ⟨a1, a2⟩
      ·
        refine (Qm)<|(sU)<|(PF) ?_
        refine iP TT 16 rfl (by omega)<|oV (xI V.ga (own aA))<|oV (xL V.lr (own aA))<|(Q7) ?_
        refine j1 (_) ?_ (bN ln) (sub (aq (kp .nil)) ao)
        (rw [if_pos (by omega), hUl]; exact gE (v.length - 1) (by omega))
      ·
        refine (Qm)<|(sU)<|(o6)<|(QZ)<|(sU)<|(Q0)<|(JO)<|(tG) ?_
        refine oV (xI V.ga (own aA))<|oV (xL V.lr (own aA))<|(Q7) ?_
        refine j1 (_) ?_ (bN ln) (sub (aq (kp .nil)) ao)
        (rw [if_pos (by omega), hUl]; exact gE (v.length - 1) (by omega))
      ·
        refine (Qm)<|(sU)<|(o6)<|(QZ)<|(sU)<|(Q0)<|(yw)<|(Q3) ?_
        refine j1 (_) ?_ (bN ln) (sub (aq (kp .nil)) ao)
        (rw [if_neg (by omega)]; done)
    ·
      intro al
      rintro hal
      refine kP (fun (al2 : Int) => [(0, .pointer (some ⟨bf, 0, none⟩)), (4, .pointer (some ⟨b4, 0, none⟩)), (6, .slice ps v.length cs), (11, .int .u16 al2)]) (fun (al2 : Int) => Row (aD 62 .u16) ps v.length cs (v.map (aa.up h.dep)) :: ai b4 68 [.int .u16 0, .int .u16 0, .int .u16 0, .int .u16 0] :: ai bf 90 [.int .i64 h.w, .int .i64 h.h, .int .i64 h.dep, .int .i64 h.ar, .bool h.aZ, .slice pp pl.length cp, .slice pt tr.length ct, .slice pd nd cd, .slice pk (aa.aR h tr).length ck] :: Rk :: Rv :: R :: F) (fun (al2 : Int) => al2 = aa.pf ⟨h, pl, tr⟩ v) ?_ ?_
      ·
        rcases ((by by_cases q : 0 < (aa.aR h tr).length; by_cases q2 : v = (aa.aR h tr); exact .inr (.inl ⟨q, q2⟩); exact .inr (.inr ⟨q, q2⟩); exact .inl q : ¬ 0 < (aa.aR h tr).length ∨ (0 < (aa.aR h tr).length ∧ v = (aa.aR h tr)) ∨ (0 < (aa.aR h tr).length ∧ ¬ v = (aa.aR h tr)))) with b1 | ⟨b1, b2⟩ | ⟨b1, b2⟩
        ·
          refine rL TT 5 rfl<|(Aj)<|(IF)<|(Qq)<|(QL) ?_
          refine j1 (_) ?_ (eQ ln) (sub (aq (kp .nil)) ao)
          (unfold aa.pf; rw [if_neg (fun q => b1 q.1)]; exact hal)
        ·
          refine rL TT 5 rfl<|(Aj)<|(IF)<|(Qt)<|(QZ)<|(Aj)<|(Q0) ?_
          refine aj (Ac pv v.length cv v rfl Rv hRv pk (aa.aR h tr).length ck (aa.aR h tr) rfl Rk hRk (by omega) true (decide_eq_true b2).symm) V.Oa  rfl (.cons iG (.cons dw .nil)) rfl ?_
          rintro _ _ ⟨rfl, rfl⟩
          refine (Qc) ?_
          refine j1 (_) ?_ (eQ ln) (sub (.cons bj (.cons bj (.cons bj (.cons ay (aT .nil))))) ao)
          (unfold aa.pf; rw [if_pos ⟨b1, b2⟩]; done)
        ·
          refine rL TT 5 rfl<|(Aj)<|(IF)<|(Qt)<|(QZ)<|(Aj)<|(Q0) ?_
          refine aj (Ac pv v.length cv v rfl Rv hRv pk (aa.aR h tr).length ck (aa.aR h tr) rfl Rk hRk (by omega) false (decide_eq_false b2).symm) V.Oa  rfl (.cons iG (.cons dw .nil)) rfl ?_
          rintro _ _ ⟨rfl, rfl⟩
          refine (Q3) ?_
          refine j1 (_) ?_ (eQ ln) (sub (.cons bj (.cons bj (.cons bj (.cons ay (aT .nil))))) ao)
          (unfold aa.pf; rw [if_neg (fun q => b2 q.2)]; exact hal)
      ·
        intro al2
        rintro hal2
        rcases ((by omega : h.ar = 0 ∨ (¬ h.ar = 0 ∧ h.ar = 4) ∨ (¬ h.ar = 0 ∧ ¬ h.ar = 4))) with a1 | ⟨a1, a2⟩ | ⟨a1, a2⟩
        ·
          refine rC TT 7 rfl ?_
          refine oV (az V.s3 rfl dL rfl) ?_
          refine oV (cJ (da rfl rfl) a1) ?_
          refine rO TT 12 rfl ?_
          refine wN [pz 0 [] [6], pz 1 [0] [], pz 3 [1] [], pz 0 [] [6], pz 8 [3] [], pz 24 [4] [], pz 0 [] [6], pz 64 [6] [], pz 192 [7] [], pz 0 [] [11], pz 1023 [2, 5, 8, 9] [], pz 2047 [10] [4], pz 4095 [] []] [⟨fun y => Row (aD 62 .u16) ps v.length cs (v.map (aa.up h.dep)), none, none, [1, 2, 4, 5, 7, 8]⟩, ⟨fun y => ai b4 68 [.int .u16 0, .int .u16 0, .int .u16 0, .int .u16 0], none, some 11, []⟩, ⟨fun y => ai bf 90 [.int .i64 h.w, .int .i64 h.h, .int .i64 h.dep, .int .i64 h.ar, .bool h.aZ, .slice pp pl.length cp, .slice pt tr.length ct, .slice pd nd cd, .slice pk (aa.aR h tr).length ck], none, none, []⟩, ⟨fun y => Rk, none, none, []⟩, ⟨fun y => Rv, none, none, []⟩, ⟨fun y => R, none, none, []⟩, ⟨fun y => ai b4 68 [.int .u16 ((aD 62 .u16).g (v.map (aa.up h.dep)) 0), .int .u16 ((aD 62 .u16).g (v.map (aa.up h.dep)) 0), .int .u16 ((aD 62 .u16).g (v.map (aa.up h.dep)) 0), .int .u16 al2], some 11, none, []⟩] F V.mixed ?_
          refine nM ?_
          refine nR (fun y FF hA => xI V.ga (own aA)) ?_
          refine nR (fun y FF hA => xL V.lr (own aA)) ?_
          refine nM ?_
          refine nR (fun y FF hA => xI V.ga (own aA)) ?_
          refine nR (fun y FF hA => xL V.lr (own aA)) ?_
          refine nM ?_
          refine nR (fun y FF hA => xI V.ga (own aA)) ?_
          refine nR (fun y FF hA => xL V.lr (own aA)) ?_
          refine nM ?_
          refine nV (fun y hA L => iM V.m9 V.tt rfl (cs := [.int .u16 ((aD 62 .u16).g (v.map (aa.up h.dep)) 0), .int .u16 ((aD 62 .u16).g (v.map (aa.up h.dep)) 0), .int .u16 ((aD 62 .u16).g (v.map (aa.up h.dep)) 0), .int .u16 al2]) (by kernel_rfl)) ?_
          refine nE (fun y FF hA => dE (bd V.kA rfl rfl (us := [_, _, _, _]) rfl rfl (by exact fW) (by exact Nat.le_of_ble_eq_true rfl) rfl) ⟨rfl, .refl _⟩) ?_
          refine nA ?_
          refine cN ?_
          intro y hA
          clear hA
          refine bg ?_
          refine bD _ (.cons (d := 4) rfl (.cons (d := 5) rfl (.nil _))) ?_
          refine bb (M := Row (aD 62 .u16) ps v.length cs (v.map (aa.up h.dep)) :: ai bf 90 [.int .i64 h.w, .int .i64 h.h, .int .i64 h.dep, .int .i64 h.ar, .bool h.aZ, .slice pp pl.length cp, .slice pt tr.length ct, .slice pd nd cd, .slice pk (aa.aR h tr).length ck] :: Rk :: Rv :: R :: ai b4 68 [.int .u16 ((aD 62 .u16).g (v.map (aa.up h.dep)) 0), .int .u16 ((aD 62 .u16).g (v.map (aa.up h.dep)) 0), .int .u16 ((aD 62 .u16).g (v.map (aa.up h.dep)) 0), .int .u16 al2] :: F) (fun _ _ h => h) ?_
          refine bb (sub .nil (.skip (.keep (.keep (.keep (.keep (.keep .refl))))))) ?_
          simp only [List.nil_append]
          refine (Qa) ?_
          obtain ⟨e0, e1, e2, e3⟩ := aa.wB ((aa.zU (f := ⟨h, pl, tr⟩) (v := v) (show h.ar = 0 ∨ h.ar = 4 from by omega)).symm.trans hpx)
          exact ag (dO V.kA rfl jB rfl rfl) ⟨by rw [← e0, ← e1, ← e2, ← e3, hal2]; rfl, rfl⟩ (sub (mH .nil) bC)
        ·
          refine rC TT 7 rfl ?_
          refine oV (az V.s3 rfl dL rfl) ?_
          refine oV (bR (da rfl rfl) a1) ?_
          refine rO TT 5 rfl ?_
          refine cL rfl ?_
          refine oV (az V.s3 rfl dL rfl) ?_
          refine cL rfl ?_
          refine oV (cJ (da rfl rfl) a2) ?_
          refine rO TT 5 rfl ?_
          refine wN [pz 0 [] [6], pz 1 [0] [], pz 3 [1] [], pz 0 [] [6], pz 8 [3] [], pz 24 [4] [], pz 0 [] [6], pz 64 [6] [], pz 192 [7] [], pz 0 [] [11], pz 1023 [2, 5, 8, 9] [], pz 2047 [10] [4], pz 4095 [] []] [⟨fun y => Row (aD 62 .u16) ps v.length cs (v.map (aa.up h.dep)), none, none, [1, 2, 4, 5, 7, 8]⟩, ⟨fun y => ai b4 68 [.int .u16 0, .int .u16 0, .int .u16 0, .int .u16 0], none, some 11, []⟩, ⟨fun y => ai bf 90 [.int .i64 h.w, .int .i64 h.h, .int .i64 h.dep, .int .i64 h.ar, .bool h.aZ, .slice pp pl.length cp, .slice pt tr.length ct, .slice pd nd cd, .slice pk (aa.aR h tr).length ck], none, none, []⟩, ⟨fun y => Rk, none, none, []⟩, ⟨fun y => Rv, none, none, []⟩, ⟨fun y => R, none, none, []⟩, ⟨fun y => ai b4 68 [.int .u16 ((aD 62 .u16).g (v.map (aa.up h.dep)) 0), .int .u16 ((aD 62 .u16).g (v.map (aa.up h.dep)) 0), .int .u16 ((aD 62 .u16).g (v.map (aa.up h.dep)) 0), .int .u16 al2], some 11, none, []⟩] F V.mixed ?_
          refine nM ?_
          refine nR (fun y FF hA => xI V.ga (own aA)) ?_
          refine nR (fun y FF hA => xL V.lr (own aA)) ?_
          refine nM ?_
          refine nR (fun y FF hA => xI V.ga (own aA)) ?_
          refine nR (fun y FF hA => xL V.lr (own aA)) ?_
          refine nM ?_
          refine nR (fun y FF hA => xI V.ga (own aA)) ?_
          refine nR (fun y FF hA => xL V.lr (own aA)) ?_
          refine nM ?_
          refine nV (fun y hA L => iM V.m9 V.tt rfl (cs := [.int .u16 ((aD 62 .u16).g (v.map (aa.up h.dep)) 0), .int .u16 ((aD 62 .u16).g (v.map (aa.up h.dep)) 0), .int .u16 ((aD 62 .u16).g (v.map (aa.up h.dep)) 0), .int .u16 al2]) (by kernel_rfl)) ?_
          refine nE (fun y FF hA => dE (bd V.kA rfl rfl (us := [_, _, _, _]) rfl rfl (by exact fW) (by exact Nat.le_of_ble_eq_true rfl) rfl) ⟨rfl, .refl _⟩) ?_
          refine nA ?_
          refine cN ?_
          intro y hA
          clear hA
          refine bg ?_
          refine bD _ (.cons (d := 4) rfl (.cons (d := 5) rfl (.nil _))) ?_
          refine bb (M := Row (aD 62 .u16) ps v.length cs (v.map (aa.up h.dep)) :: ai bf 90 [.int .i64 h.w, .int .i64 h.h, .int .i64 h.dep, .int .i64 h.ar, .bool h.aZ, .slice pp pl.length cp, .slice pt tr.length ct, .slice pd nd cd, .slice pk (aa.aR h tr).length ck] :: Rk :: Rv :: R :: ai b4 68 [.int .u16 ((aD 62 .u16).g (v.map (aa.up h.dep)) 0), .int .u16 ((aD 62 .u16).g (v.map (aa.up h.dep)) 0), .int .u16 ((aD 62 .u16).g (v.map (aa.up h.dep)) 0), .int .u16 al2] :: F) (fun _ _ h => h) ?_
          refine bb (sub .nil (.skip (.keep (.keep (.keep (.keep (.keep .refl))))))) ?_
          simp only [List.nil_append]
          refine (Qa) ?_
          obtain ⟨e0, e1, e2, e3⟩ := aa.wB ((aa.zU (f := ⟨h, pl, tr⟩) (v := v) (show h.ar = 0 ∨ h.ar = 4 from by omega)).symm.trans hpx)
          exact ag (dO V.kA rfl jB rfl rfl) ⟨by rw [← e0, ← e1, ← e2, ← e3, hal2]; rfl, rfl⟩ (sub (mH .nil) bC)
        ·
          refine rC TT 7 rfl ?_
          refine oV (az V.s3 rfl dL rfl) ?_
          refine oV (bR (da rfl rfl) a1) ?_
          refine rO TT 5 rfl ?_
          refine cL rfl ?_
          refine oV (az V.s3 rfl dL rfl) ?_
          refine cL rfl ?_
          refine oV (bR (da rfl rfl) a2) ?_
          refine rO TT 7 rfl ?_
          refine wN [pz 0 [] [6], pz 1 [0] [], pz 3 [1] [], pz 0 [] [6], pz 8 [3] [], pz 24 [4] [], pz 0 [] [6], pz 64 [6] [], pz 192 [7] [], pz 0 [] [11], pz 1023 [2, 5, 8, 9] [], pz 2047 [10] [4], pz 4095 [] []] [⟨fun y => Row (aD 62 .u16) ps v.length cs (v.map (aa.up h.dep)), none, none, [1, 2, 4, 5, 7, 8]⟩, ⟨fun y => ai b4 68 [.int .u16 0, .int .u16 0, .int .u16 0, .int .u16 0], none, some 11, []⟩, ⟨fun y => ai bf 90 [.int .i64 h.w, .int .i64 h.h, .int .i64 h.dep, .int .i64 h.ar, .bool h.aZ, .slice pp pl.length cp, .slice pt tr.length ct, .slice pd nd cd, .slice pk (aa.aR h tr).length ck], none, none, []⟩, ⟨fun y => Rk, none, none, []⟩, ⟨fun y => Rv, none, none, []⟩, ⟨fun y => R, none, none, []⟩, ⟨fun y => ai b4 68 [.int .u16 ((aD 62 .u16).g (v.map (aa.up h.dep)) 0), .int .u16 ((aD 62 .u16).g (v.map (aa.up h.dep)) 1), .int .u16 ((aD 62 .u16).g (v.map (aa.up h.dep)) 2), .int .u16 al2], some 11, none, []⟩] F V.mixed ?_
          refine nM ?_
          refine nR (fun y FF hA => xI V.ga (own aA)) ?_
          refine nR (fun y FF hA => xL V.lr (own aA)) ?_
          refine nM ?_
          refine nR (fun y FF hA => xI V.ga (own aA)) ?_
          refine nR (fun y FF hA => xL V.lr (own aA)) ?_
          refine nM ?_
          refine nR (fun y FF hA => xI V.ga (own aA)) ?_
          refine nR (fun y FF hA => xL V.lr (own aA)) ?_
          refine nM ?_
          refine nV (fun y hA L => iM V.m9 V.tt rfl (cs := [.int .u16 ((aD 62 .u16).g (v.map (aa.up h.dep)) 0), .int .u16 ((aD 62 .u16).g (v.map (aa.up h.dep)) 1), .int .u16 ((aD 62 .u16).g (v.map (aa.up h.dep)) 2), .int .u16 al2]) (by kernel_rfl)) ?_
          refine nE (fun y FF hA => dE (bd V.kA rfl rfl (us := [_, _, _, _]) rfl rfl (by exact fW) (by exact Nat.le_of_ble_eq_true rfl) rfl) ⟨rfl, .refl _⟩) ?_
          refine nA ?_
          refine cN ?_
          intro y hA
          clear hA
          refine bg<|(VO) ?_
          refine bb (M := Row (aD 62 .u16) ps v.length cs (v.map (aa.up h.dep)) :: ai bf 90 [.int .i64 h.w, .int .i64 h.h, .int .i64 h.dep, .int .i64 h.ar, .bool h.aZ, .slice pp pl.length cp, .slice pt tr.length ct, .slice pd nd cd, .slice pk (aa.aR h tr).length ck] :: Rk :: Rv :: R :: ai b4 68 [.int .u16 ((aD 62 .u16).g (v.map (aa.up h.dep)) 0), .int .u16 ((aD 62 .u16).g (v.map (aa.up h.dep)) 1), .int .u16 ((aD 62 .u16).g (v.map (aa.up h.dep)) 2), .int .u16 al2] :: F) (fun _ _ h => h)<|(Y6) ?_
          simp only [List.nil_append]
          refine (Q9) ?_
          obtain ⟨e0, e1, e2, e3⟩ := aa.wB ((aa.KI (f := ⟨h, pl, tr⟩) (v := v) (show ¬ (h.ar = 0 ∨ h.ar = 4) from by omega) h3).symm.trans hpx)
          exact ag (dO V.kA rfl jB rfl rfl) ⟨by rw [← e0, ← e1, ← e2, ← e3, hal2]; rfl, rfl⟩ (sub (mH .nil) bC)
theorem Gn (h : aa.Hd) (bf : Nat) (pp : Option Addr) (pl : List Int) (cp : Nat) (pt : Option Addr) (tr : List Int) (ct : Nat) (pd : Option Addr) (nd cd : Nat) (pk : Option Addr) (ck : Nat) (R : ab) (hP : ∀ w0 h, R w0 h → aE U5 pp pl.length pl w0 h) (hT : ∀ w0 h, R w0 h → aE U5 pt tr.length tr w0 h) (hcp : pl.length ≤ cp) (hB : af.ak pl) (hBt : af.ak tr) (hpl : pl.length < 500000000) (htl : tr.length < 500000000) (pv : Option Addr) (cv : Nat) (v : List Int) (Rk Rv : ab) (hRk : ∀ w0 h_, Rk w0 h_ → aE (aD 3 .i64) pk (aa.aR h tr).length (aa.aR h tr) w0 h_) (hRv : ∀ w0 h_, Rv w0 h_ → aE (aD 3 .i64) pv v.length v w0 h_) (hf : aa.fu ⟨h, pl, tr⟩) (hvl : v.length = (aa.parts h.ar).toNat) (hvx : ∀ x ∈ v, 0 ≤ x ∧ x < 2 ^ h.dep.toNat) (hk2 : v.getD 0 0 < 100000000) (hpx : aa.fy ⟨h, pl, tr⟩ v = none) : aC Tryz.prog 151 [.pointer (some ⟨bf, 0, none⟩), .slice pv v.length cv] [ai bf 90 [.int .i64 h.w, .int .i64 h.h, .int .i64 h.dep, .int .i64 h.ar, .bool h.aZ, .slice pp pl.length cp, .slice pt tr.length ct, .slice pd nd cd, .slice pk (aa.aR h tr).length ck], Rk, Rv, R] (aG fun e G => e = .tuple #[.agg #[.int .u16 0, .int .u16 0, .int .u16 0, .int .u16 0], .bool false] ∧ G = [ai bf 90 [.int .i64 h.w, .int .i64 h.h, .int .i64 h.dep, .int .i64 h.ar, .bool h.aZ, .slice pp pl.length cp, .slice pt tr.length ct, .slice pd nd cd, .slice pk (aa.aR h tr).length ck], Rk, Rv, R]) := by
  by_cases h3 : h.ar = 3
  · have hx := hvx (v.getD 0 0) (aa.hG (by have := aa.gi (c := h.ar) (d := h.dep) (by unfold aa.fu at hf; exact hf.1); omega))
    obtain ⟨k, hk⟩ : ∃ k : Nat, v.getD 0 0 = (k : Int) := ⟨(v.getD 0 0).toNat, by omega⟩
    rw [aa.xh h3, hk] at hpx
    refine El h bf pp pl cp pt tr ct pd nd cd pk ck R hP hT hcp hB hBt hpl htl pv cv v Rk Rv hRk hRv hf hvl hvx h3 k hk (by omega)<|Classical.not_not.1 fun q => ?_
    rw [show ((k : Int)).toNat = k from rfl, aa.E5 q] at hpx
    cases hpx
  · rw [aa.tU h3] at hpx; cases hpx
theorem GH (h : aa.Hd) (bf : Nat) (pp : Option Addr) (pl : List Int) (cp : Nat) (pt : Option Addr) (tr : List Int) (ct : Nat) (pd : Option Addr) (nd cd : Nat) (pk : Option Addr) (ck : Nat) (R : ab) (hP : ∀ w0 h, R w0 h → aE U5 pp pl.length pl w0 h) (hT : ∀ w0 h, R w0 h → aE U5 pt tr.length tr w0 h) (hcp : pl.length ≤ cp) (hB : af.ak pl) (hBt : af.ak tr) (hpl : pl.length < 500000000) (htl : tr.length < 500000000) (pv : Option Addr) (cv : Nat) (v : List Int) (Rk Rv : ab) (hRk : ∀ w0 h_, Rk w0 h_ → aE (aD 3 .i64) pk (aa.aR h tr).length (aa.aR h tr) w0 h_) (hRv : ∀ w0 h_, Rv w0 h_ → aE (aD 3 .i64) pv v.length v w0 h_) (hf : aa.fu ⟨h, pl, tr⟩) (hvl : v.length = (aa.parts h.ar).toNat) (hvx : ∀ x ∈ v, 0 ≤ x ∧ x < 2 ^ h.dep.toNat) (hk2 : v.getD 0 0 < 100000000) (c0 c1 c2 c3 : Int) (hpx : aa.fy ⟨h, pl, tr⟩ v = some [c0, c1, c2, c3]) : aC Tryz.prog 151 [.pointer (some ⟨bf, 0, none⟩), .slice pv v.length cv] [ai bf 90 [.int .i64 h.w, .int .i64 h.h, .int .i64 h.dep, .int .i64 h.ar, .bool h.aZ, .slice pp pl.length cp, .slice pt tr.length ct, .slice pd nd cd, .slice pk (aa.aR h tr).length ck], Rk, Rv, R] (aG fun e G => e = .tuple #[.agg #[.int .u16 c0, .int .u16 c1, .int .u16 c2, .int .u16 c3], .bool true] ∧ G = [ai bf 90 [.int .i64 h.w, .int .i64 h.h, .int .i64 h.dep, .int .i64 h.ar, .bool h.aZ, .slice pp pl.length cp, .slice pt tr.length ct, .slice pd nd cd, .slice pk (aa.aR h tr).length ck], Rk, Rv, R]) := by
  by_cases h3 : h.ar = 3
  · have hx := hvx (v.getD 0 0) (aa.hG (by have := aa.gi (c := h.ar) (d := h.dep) (by unfold aa.fu at hf; exact hf.1); omega))
    obtain ⟨k, hk⟩ : ∃ k : Nat, v.getD 0 0 = (k : Int) := ⟨(v.getD 0 0).toNat, by omega⟩
    rw [aa.xh h3, hk, show ((k : Int)).toNat = k from rfl] at hpx
    have q : ¬ pl.length / 3 ≤ k := fun q => by rw [aa.N5 q] at hpx; cases hpx
    rw [aa.E5 q] at hpx
    obtain ⟨rfl, rfl, rfl, rfl⟩ := aa.wB hpx
    exact Ft h bf pp pl cp pt tr ct pd nd cd pk ck R hP hT hcp hB hBt hpl htl pv cv v Rk Rv hRk hRv hf hvl hvx h3 k hk (by omega) q
  · exact FP h bf pp pl cp pt tr ct pd nd cd pk ck R hP hT hcp hB hBt hpl htl pv cv v Rk Rv hRk hRv hf hvl hvx h3 c0 c1 c2 c3 hpx
end Go.Proofs.YtmaiakpjgomnpaaGreat
namespace Go.Proofs.YtmaiakpjgomnpaaGreat
open Go.Sl 
attribute [local irreducible] af.ak aa.off aa.rm aa.mO aa.gz aa.iD aa.jt aa.eJ aa.iJ aa.W6 aa.rv
set_option maxHeartbeats 1000000 in
theorem Cf (a : Int) (ha : -255 ≤ a ∧ a ≤ 510) (y : Int) (hy : 0 ≤ y ∧ y < 256) : aC Tryz.prog 163 [.int .i64 a, .int .i64 y] [] (aG fun v G => v = .int .i64 (aa.off a y) ∧ G = []) := by
 refine au [(0, _), (1, _)] Tryz.func163 rfl Tryz.ntmps163 rfl rfl ?_
 intro w0 F
 refine ED TT 13 rfl (by omega)<|oV (de (v := .int .i64 (aa.off a y)) (BB rfl rfl) (congrArg (Value.int .i64) (aa.MN a y)))<|(Q8) ?_
 exact ag (aw rfl) ⟨rfl, rfl⟩ (sub .nil ao)
set_option maxHeartbeats 1000000 in
theorem Ke (x : Int) (hx : 0 ≤ x ∧ x < 256) (y : Int) (hy : 0 ≤ y ∧ y < 256) (z : Int) (hz : 0 ≤ z ∧ z < 256) : aC Tryz.prog 165 [.int .u8 x, .int .u8 y, .int .u8 z] [] (aG fun v G => v = .int .u8 (aa.rm x y z) ∧ G = []) := by
 refine au [(0, _), (1, _), (2, _)] Tryz.func165 rfl Tryz.ntmps165 rfl rfl ?_
 intro w0 F
 refine (QJ)<|(qa)<|(Q6)<|(qa)<|(Q6)<|(qa)<|(Q3) ?_
 rcases (aa.Ya x y z) with ⟨q1, q2, hs⟩ | ⟨q1, q2, q3, hs⟩ | ⟨q1, q2, q3, hs⟩ | ⟨q1, q3, hs⟩ | ⟨q1, q3, hs⟩
 ·refine (E4)<|(vC) ?_
  rintro _ _ ⟨rfl, rfl⟩
  refine (Q7)<|(tV) ?_
  rintro _ _ ⟨rfl, rfl⟩
  refine oV (cJ (eO rfl rfl) q1)<|(Qf)<|(vC) ?_
  rintro _ _ ⟨rfl, rfl⟩
  refine (Qk)<|(xk) ?_
  rintro _ _ ⟨rfl, rfl⟩
  refine (Q0) ?_
  refine oV (cJ (eO rfl rfl) q2)<|(QP) ?_
  exact ag (aw rfl) ⟨congrArg (Value.int .u8) hs.symm, rfl⟩ (sub .nil ao)
 ·refine (E4)<|(vC) ?_
  rintro _ _ ⟨rfl, rfl⟩
  refine (Q7)<|(tV) ?_
  rintro _ _ ⟨rfl, rfl⟩
  refine oV (cJ (eO rfl rfl) q1)<|(Qf)<|(vC) ?_
  rintro _ _ ⟨rfl, rfl⟩
  refine (Qk)<|(xk) ?_
  rintro _ _ ⟨rfl, rfl⟩
  refine (Q0) ?_
  refine oV (bR (eO rfl rfl) q2)<|(Qn)<|(tV) ?_
  rintro _ _ ⟨rfl, rfl⟩
  refine (Q7)<|(xk) ?_
  rintro _ _ ⟨rfl, rfl⟩
  refine oV (cJ (eO rfl rfl) q3)<|(Qu) ?_
  exact ag (aw rfl) ⟨congrArg (Value.int .u8) hs.symm, rfl⟩ (sub .nil ao)
 ·refine (E4)<|(vC) ?_
  rintro _ _ ⟨rfl, rfl⟩
  refine (Q7)<|(tV) ?_
  rintro _ _ ⟨rfl, rfl⟩
  refine oV (cJ (eO rfl rfl) q1)<|(Qf)<|(vC) ?_
  rintro _ _ ⟨rfl, rfl⟩
  refine (Qk)<|(xk) ?_
  rintro _ _ ⟨rfl, rfl⟩
  refine (Q0) ?_
  refine oV (bR (eO rfl rfl) q2)<|(Qn)<|(tV) ?_
  rintro _ _ ⟨rfl, rfl⟩
  refine (Q7)<|(xk) ?_
  rintro _ _ ⟨rfl, rfl⟩
  refine oV (bR (eO rfl rfl) q3)<|(QP) ?_
  exact ag (aw rfl) ⟨congrArg (Value.int .u8) hs.symm, rfl⟩ (sub .nil ao)
 ·refine (E4)<|(vC) ?_
  rintro _ _ ⟨rfl, rfl⟩
  refine (Q7)<|(tV) ?_
  rintro _ _ ⟨rfl, rfl⟩
  refine oV (bR (eO rfl rfl) q1)<|rO TT 17 rfl<|(tV) ?_
  rintro _ _ ⟨rfl, rfl⟩
  refine (Q7)<|(xk) ?_
  rintro _ _ ⟨rfl, rfl⟩
  refine oV (cJ (eO rfl rfl) q3)<|(Qu) ?_
  exact ag (aw rfl) ⟨congrArg (Value.int .u8) hs.symm, rfl⟩ (sub .nil ao)
 ·refine (E4)<|(vC) ?_
  rintro _ _ ⟨rfl, rfl⟩
  refine (Q7)<|(tV) ?_
  rintro _ _ ⟨rfl, rfl⟩
  refine oV (bR (eO rfl rfl) q1)<|rO TT 17 rfl<|(tV) ?_
  rintro _ _ ⟨rfl, rfl⟩
  refine (Q7)<|(xk) ?_
  rintro _ _ ⟨rfl, rfl⟩
  refine oV (bR (eO rfl rfl) q3)<|(QP) ?_
  exact ag (aw rfl) ⟨congrArg (Value.int .u8) hs.symm, rfl⟩ (sub .nil ao)
set_option maxHeartbeats 1000000 in
theorem Hg (p : Option Addr) (c n : Nat) (L : List Int) (R : ab) (hR : ∀ w0 h, R w0 h → aE U5 p n L w0 h) (hn : L.length = n) (hB : af.ak L) (j : Int) : aC Tryz.prog 164 [.slice p n c, .int .i64 j] [R] (aG fun v G => v = .int .u8 (aa.rv L j) ∧ G = [R]) := by
 refine au [(0, _), (1, _)] Tryz.func164 rfl Tryz.ntmps164 rfl rfl ?_
 intro w0 F
 refine (QI) ?_
 rcases (aa.XZ L j) with ⟨q1, hs⟩ | ⟨q1, q2, hs⟩ | ⟨q1, q2, hs⟩
 ·refine (Q5)<|(QO) ?_
  exact rO TT 16 rfl<|ag (aw rfl) ⟨congrArg (Value.int .u8) hs.symm, rfl⟩ (sub (aq .nil) ao)
 ·refine (Q5)<|(QM)<|(Qz)<|(QN)<|(Qs) ?_
  exact ag (aw rfl) ⟨congrArg (Value.int .u8) hs.symm, rfl⟩ (sub (aq .nil) ao)
 ·refine (Q5)<|(QM)<|(Qz)<|(oI)<|(Qi)<|(JG)<|(JQ)<|(Q8) ?_
  exact ag (aw rfl) ⟨congrArg (Value.int .u8) hs.symm, rfl⟩ (sub (aq .nil) ao)
set_option maxHeartbeats 1000000 in
theorem RD (kind : Int) (p1 : Option Addr) (c1 n1 : Nat) (L1 : List Int) (R1 : ab) (hR1 : ∀ w0 h, R1 w0 h → aE U5 p1 n1 L1 w0 h) (hn1 : L1.length = n1) (hB1 : af.ak L1) (p2 : Option Addr) (c2 n2 : Nat) (L2 : List Int) (R2 : ab) (hR2 : ∀ w0 h, R2 w0 h → aE U5 p2 n2 L2 w0 h) (hn2 : L2.length = n2) (hB2 : af.ak L2) (i back : Nat) (hi : i < 500000000) (hbk : back ≤ 8) : aC Tryz.prog 141 [.int .i64 kind, .slice p1 n1 c1, .slice p2 n2 c2, .int .i64 (back : Int), .int .i64 (i : Int)] [R1, R2] (aG fun v G => v = .int .u8 (aa.mO kind (aa.gz L1 i back) (L2.getD i 0) (aa.gz L2 i back)) ∧ G = [R1, R2]) := by
 refine au [(0, _), (1, _), (2, _), (3, _), (4, _)] Tryz.func141 rfl Tryz.ntmps141 rfl rfl ?_
 intro w0 F
 have ha := aa.Jj hB1 i back
 have hb : 0 ≤ (L2.getD i 0) ∧ (L2.getD i 0) < 256 := hB2.get i
 have hd := aa.Jj hB2 i back
 refine ED TT 11 rfl (by omega)<|aj (Hg p1 c1 n1 L1 R1 hR1 hn1 hB1 ((i : Int) - (back : Int))) V.F4  rfl (aq .nil) rfl ?_
 rintro _ _ ⟨rfl, rfl⟩
 rw [aa.Ff]
 refine (Q7) ?_
 refine aj (Hg p2 c2 n2 L2 R2 hR2 hn2 hB2 (i : Int)) V.F4  rfl (.cons ay .nil) rfl ?_
 rintro _ _ ⟨rfl, rfl⟩
 rw [aa.LA]
 refine (vK) ?_
 refine aj (Hg p2 c2 n2 L2 R2 hR2 hn2 hB2 ((i : Int) - (back : Int))) V.F4  rfl (aq .nil) rfl ?_
 rintro _ _ ⟨rfl, rfl⟩
 rw [aa.Ff]
 refine (Q3) ?_
 rcases (aa.Xv kind (aa.gz L1 i back) (L2.getD i 0) (aa.gz L2 i back)) with ⟨q1, hs⟩ | ⟨q1, q2, hs⟩ | ⟨q1, q2, q3, hs⟩ | ⟨q1, q2, q3, q4, hs⟩ | ⟨q1, q2, q3, q4, hs⟩
 ·refine (oO)<|(QD)<|(Qu) ?_
  exact ag (aw rfl) ⟨congrArg (Value.int .u8) hs.symm, rfl⟩ (sub (.cons ay (aq .nil)) ao)
 ·refine (oO) ?_
  refine (QC) ?_
  refine (Q1) ?_
  refine (QD) ?_
  refine (Qu) ?_
  exact ag (aw rfl) ⟨congrArg (Value.int .u8) hs.symm, rfl⟩ (sub (.cons ay (aq .nil)) ao)
 ·refine (oO) ?_
  refine (QC) ?_
  refine (Q1) ?_
  refine (QC) ?_
  refine (Q1) ?_
  refine (QD) ?_
  refine (Qc) ?_
  refine (qa) ?_
  refine (Q6) ?_
  refine (qa) ?_
  refine iP TT 1 rfl (by omega) ?_
  refine oV (ji (r := ((aa.gz L1 i back) + (L2.getD i 0)) / 2) rfl rfl (by omega) (rS (by omega) (by omega) (by omega))) ?_
  refine (pU) ?_
  refine (Q1) ?_
  exact ag (aw rfl) ⟨congrArg (Value.int .u8) hs.symm, rfl⟩ (sub (.cons ay (aq .nil)) ao)
 ·refine (oO) ?_
  refine (QC) ?_
  refine (Q1) ?_
  refine (QC) ?_
  refine (Q1) ?_
  refine (QC) ?_
  refine (Q1) ?_
  refine (QD) ?_
  refine (Qn) ?_
  refine aj (Ke (aa.gz L1 i back) ha (L2.getD i 0) hb (aa.gz L2 i back) hd) V.XW  rfl .nil rfl ?_
  rintro _ _ ⟨rfl, rfl⟩
  refine (Q1) ?_
  exact ag (aw rfl) ⟨congrArg (Value.int .u8) hs.symm, rfl⟩ (sub (.cons ay (aq .nil)) ao)
 ·refine (oO) ?_
  refine (QC) ?_
  refine (Q1) ?_
  refine (QC) ?_
  refine (Q1) ?_
  refine (QC) ?_
  refine (Q1) ?_
  refine (QC) ?_
  refine (Qu) ?_
  exact ag (aw rfl) ⟨congrArg (Value.int .u8) hs.symm, rfl⟩ (sub (.cons ay (aq .nil)) ao)
set_option maxHeartbeats 1000000 in
theorem Jl (kind : Int) (p1 : Option Addr) (c1 n1 : Nat) (L1 : List Int) (R1 : ab) (hR1 : ∀ w0 h, R1 w0 h → aE U5 p1 n1 L1 w0 h) (hn1 : L1.length = n1) (hB1 : af.ak L1) (p2 : Option Addr) (c2 n2 : Nat) (L2 : List Int) (R2 : ab) (hR2 : ∀ w0 h, R2 w0 h → aE U5 p2 n2 L2 w0 h) (hn2 : L2.length = n2) (hB2 : af.ak L2) (back : Nat) (hbk : 1 ≤ back ∧ back ≤ 8) (h2 : n2 = 0 ∨ n2 = n1) (hk : 0 ≤ kind) (hn1s : n1 < 500000000) (t : Bool) (ht : t = decide (kind < 5)) : aC Tryz.prog 140 [.int .i64 kind, .slice p1 n1 c1, .slice p2 n2 c2, .int .i64 (back : Int)] [R1, R2] (aG fun v G => v = .bool t ∧ G = [R1, R2]) := by
 refine au [(0, _), (1, _), (2, _), (3, _)] Tryz.func140 rfl Tryz.ntmps140 rfl rfl ?_
 intro w0 F
 refine (QI) ?_
 rcases ((by by_cases h : kind < 5; exact (Nat.eq_zero_or_pos n2).elim (fun q => .inr (.inl ⟨h, q⟩)) (fun q => .inr (.inr ⟨h, q⟩)); exact .inl h : ¬ kind < 5 ∨ (kind < 5 ∧ n2 = 0) ∨ (kind < 5 ∧ 0 < n2))) with hq | ⟨hq, hz⟩ | ⟨hq, hz⟩
 ·refine (Q4)<|(QN)<|(Qk) ?_
  refine oV (bR (dW rfl rfl) hq)<|rO TT 25 rfl ?_
  (obtain rfl : t = false := ht.trans (decide_eq_false hq); exact ag (G := [R1, R2]) (aw rfl) ⟨rfl, rfl⟩ (sub (aT .nil) ao))
 ·refine (Q4)<|(QN)<|(Qk)<|(H0)<|(Qf)<|(QN)<|(Qf)<|(yR)<|(Qz)<|(QD)<|(QL) ?_
  (obtain rfl : t = true := ht.trans (decide_eq_true hq); exact ag (G := [R1, R2]) (aw rfl) ⟨rfl, rfl⟩ (sub (aT .nil) ao))
 ·refine (Q4)<|(QN)<|(Qk)<|(H0)<|(Qf)<|(QN)<|(Qf)<|(yR)<|(Qz)<|(QC)<|(QZ)<|(QD)<|(Q1) ?_
  (obtain rfl : t = true := ht.trans (decide_eq_true hq); exact ag (G := [R1, R2]) (aw rfl) ⟨rfl, rfl⟩ (sub (aT .nil) ao))
set_option maxHeartbeats 2000000 in
theorem NG (kind : Int) (p1 : Option Addr) (c1 n1 : Nat) (L1 : List Int) (R1 : ab) (hR1 : ∀ w0 h, R1 w0 h → aE U5 p1 n1 L1 w0 h) (hn1 : L1.length = n1) (hB1 : af.ak L1) (p2 : Option Addr) (c2 n2 : Nat) (L2 : List Int) (R2 : ab) (hR2 : ∀ w0 h, R2 w0 h → aE U5 p2 n2 L2 w0 h) (hn2 : L2.length = n2) (hB2 : af.ak L2) (back : Nat) (hbk : 1 ≤ back ∧ back ≤ 8) (h2 : n2 = 0 ∨ n2 = n1) (hk : 0 ≤ kind) (hn1s : n1 < 500000000) : aC Tryz.prog 120 [.int .i64 kind, .slice p1 n1 c1, .slice p2 n2 c2, .int .i64 (back : Int)] [R1, R2] (aG fun v G => (4 < kind ∧ v = .tuple #[.slice none 0 0, .bool false] ∧ G = [R1, R2]) ∨ (¬ 4 < kind ∧ ∃ q cq, v = .tuple #[.slice q n1 cq, .bool true] ∧ G = [Row U5 q n1 cq (aa.eJ kind L1 L2 back), R1, R2])) := by
 refine au [(0, _), (1, _), (2, _), (3, _)] Tryz.func120 rfl Tryz.ntmps120 rfl rfl ?_
 intro w0 F
 refine (QV) ?_
 rcases (Int.lt_or_le 4 kind) with hq | hq
 ·refine (Qp) ?_
  refine aj (Jl kind p1 c1 n1 L1 R1 hR1 hn1 hB1 p2 c2 n2 L2 R2 hR2 hn2 hB2 back hbk h2 hk hn1s false (decide_eq_false (by omega)).symm) V.Rc  rfl (aT .nil) rfl ?_
  rintro _ _ ⟨rfl, rfl⟩
  refine (QL) ?_
  exact ag (eC rfl rfl) (.inl ⟨hq, rfl, rfl⟩) (sub (aT .nil) ao)
 ·refine (Qp) ?_
  refine aj (Jl kind p1 c1 n1 L1 R1 hR1 hn1 hB1 p2 c2 n2 L2 R2 hR2 hn2 hB2 back hbk h2 hk hn1s true (decide_eq_true (by omega)).symm) V.Rc  rfl (aT .nil) rfl ?_
  rintro _ _ ⟨rfl, rfl⟩
  refine (Qi) ?_
  refine kO n1 n1 (U5) rfl rfl V.bK V.z5 rfl rfl rfl rfl (by omega) (by omega) rfl rfl ?_
  intro oQ
  refine (QL) ?_
  rw [show List.replicate n1 U5.d = aa.iJ kind L1 L2 back 0 from by rw [aa.NM, hn1]]
  refine cB (fun (i : Nat) => [(0, .int .i64 kind), (2, .slice p2 n2 c2), (3, .int .i64 (back : Int)), (10, .slice (some ⟨oQ, 0, none⟩) n1 n1), (22, .slice p1 n1 c1), (23, .int .i64 (n1 : Int)), (24, .int .i64 (i : Int))]) (fun (i : Nat) => Row U5 (some ⟨oQ, 0, none⟩) n1 n1 (aa.iJ kind L1 L2 back i) :: R1 :: R2 :: F) (fun (i : Nat) => i ≤ n1) (fun (i : Nat) => n1 - i) (i1 (0) ?_ (jg (bN ln)) (sub (fQ .nil) ao)) ?_
  ·exact Nat.zero_le _
  intro i
  rintro hi
  refine (Qm) ?_
  refine aF rfl (fun h25 => ?_) (fun h25 => ?_)
  ·refine (Qp) ?_
   refine oV (xI V.bK (by exact bG hR1 dM))<|oV (xL V.s5 (by exact bG hR1 dM))<|(Qu) ?_
   refine aj (RD kind (some ⟨oQ, 0, none⟩) n1 n1 (aa.iJ kind L1 L2 back i) (Row U5 (some ⟨oQ, 0, none⟩) n1 n1 (aa.iJ kind L1 L2 back i)) (fun _ _ hh => hh.rd) (by rw [aa.GG (by omega)]; exact hn1) aa.Hw p2 c2 n2 L2 R2 hR2 hn2 hB2 i back (by omega) hbk.2) V.Yk  rfl (aq (.cons ay .nil)) rfl ?_
   rintro _ _ ⟨rfl, rfl⟩
   rw [aa.KK (by omega)]
   refine oV (eb (r := (aa.jt kind L1 L2 back (aa.iD kind L1 L2 back i) i)) rfl rfl ((aa.fY _).trans (aa.Ka rfl rfl)))<|oV (xI V.bK (own aA))<|(VJ)<|(A9) ?_
   rw [show List.set (aa.iJ kind L1 L2 back i) ((i : Int)).toNat (aa.jt kind L1 L2 back (aa.iD kind L1 L2 back i) i) = aa.iJ kind L1 L2 back (i + 1) from aa.G9 (by omega)]
   exact j1 (i + 1) ⟨by omega, by omega⟩ (jg (bN ln)) (sub (aq (.cons ay (.cons dg .nil))) ao)
  ·refine (Qd) ?_
   obtain rfl : i = n1 := by omega
   rw [show aa.iJ kind L1 L2 back i = aa.eJ kind L1 L2 back from hn1 ▸ aa.GC kind L1 L2 back]
   refine (Qp) ?_
   exact ag (eC rfl rfl) (.inr ⟨by omega, _, _, rfl, rfl⟩) (sub (fQ .nil) ao)
end Go.Proofs.YtmaiakpjgomnpaaGreat
namespace Go.Proofs.YtmaiakpjgomnpaaGreat
open Go.Sl
theorem V.SG : aB Tryz.prog 120 = true := by kernel_rfl
theorem V.MY : aB Tryz.prog 121 = true := by kernel_rfl
theorem V.RI : aB Tryz.prog 151 = true := by kernel_rfl
theorem V.Xp : aB Tryz.prog 152 = true := by kernel_rfl
theorem V.Rp : a7 Tryz.prog 145 0 = some 0 := by kernel_rfl
theorem V.Zz : a7 Tryz.prog 145 1 = some 1 := by kernel_rfl
theorem V.Zo : a7 Tryz.prog 145 2 = some 2 := by kernel_rfl
theorem V.Zt : a7 Tryz.prog 145 3 = some 3 := by kernel_rfl
end Go.Proofs.YtmaiakpjgomnpaaGreat
namespace Go.Proofs.YtmaiakpjgomnpaaGreat
open Go.Sl 
attribute [local irreducible] af.ak aa.aW aa.up aa.bM aa.fJ aa.D2 aa.deep aa.parts HW aa.aR aa.fy aa.dJ aa.pf aa.ky aa.fu aa.dS aa.eg aa.kW aa.kb aa.eJ aa.dv
theorem PZ (h : aa.Hd) (bf : Nat) (pp : Option Addr) (pl : List Int) (cp : Nat) (pt : Option Addr) (tr : List Int) (ct : Nat) (pd : Option Addr) (nd cd : Nat) (pk : Option Addr) (ck : Nat) (R : ab) (hP : ∀ w0 h, R w0 h → aE U5 pp pl.length pl w0 h) (hT : ∀ w0 h, R w0 h → aE U5 pt tr.length tr w0 h) (hcp : pl.length ≤ cp) (hB : af.ak pl) (hBt : af.ak tr) (hpl : pl.length < 500000000) (htl : tr.length < 500000000) (pv : Option Addr) (cv : Nat) (v : List Int) (Rk Rv : ab) (hRk : ∀ w0 h_, Rk w0 h_ → aE (aD 3 .i64) pk (aa.aR h tr).length (aa.aR h tr) w0 h_) (hRv : ∀ w0 h_, Rv w0 h_ → aE (aD 3 .i64) pv v.length v w0 h_) (hf : aa.fu ⟨h, pl, tr⟩) (hvl : v.length = (aa.parts h.ar).toNat) (hvx : ∀ x ∈ v, 0 ≤ x ∧ x < 2 ^ h.dep.toNat) (nv : Nat) (hnv : v.length = nv) (hk2 : v.getD 0 0 < 100000000) (hpx : aa.fy ⟨h, pl, tr⟩ v = none) : aC Tryz.prog 151 [.pointer (some ⟨bf, 0, none⟩), .slice pv nv cv] [ai bf 90 [.int .i64 h.w, .int .i64 h.h, .int .i64 h.dep, .int .i64 h.ar, .bool h.aZ, .slice pp pl.length cp, .slice pt tr.length ct, .slice pd nd cd, .slice pk (aa.aR h tr).length ck], Rk, Rv, R] (aG fun e G => e = .tuple #[.agg #[.int .u16 0, .int .u16 0, .int .u16 0, .int .u16 0], .bool false] ∧ G = [ai bf 90 [.int .i64 h.w, .int .i64 h.h, .int .i64 h.dep, .int .i64 h.ar, .bool h.aZ, .slice pp pl.length cp, .slice pt tr.length ct, .slice pd nd cd, .slice pk (aa.aR h tr).length ck], Rk, Rv, R]) := by
 subst hnv
 exact Gn h bf pp pl cp pt tr ct pd nd cd pk ck R hP hT hcp hB hBt hpl htl pv cv v Rk Rv hRk hRv hf hvl hvx hk2 hpx
theorem ME (h : aa.Hd) (bf : Nat) (pp : Option Addr) (pl : List Int) (cp : Nat) (pt : Option Addr) (tr : List Int) (ct : Nat) (pd : Option Addr) (nd cd : Nat) (pk : Option Addr) (ck : Nat) (R : ab) (hP : ∀ w0 h, R w0 h → aE U5 pp pl.length pl w0 h) (hT : ∀ w0 h, R w0 h → aE U5 pt tr.length tr w0 h) (hcp : pl.length ≤ cp) (hB : af.ak pl) (hBt : af.ak tr) (hpl : pl.length < 500000000) (htl : tr.length < 500000000) (pv : Option Addr) (cv : Nat) (v : List Int) (Rk Rv : ab) (hRk : ∀ w0 h_, Rk w0 h_ → aE (aD 3 .i64) pk (aa.aR h tr).length (aa.aR h tr) w0 h_) (hRv : ∀ w0 h_, Rv w0 h_ → aE (aD 3 .i64) pv v.length v w0 h_) (hf : aa.fu ⟨h, pl, tr⟩) (hvl : v.length = (aa.parts h.ar).toNat) (hvx : ∀ x ∈ v, 0 ≤ x ∧ x < 2 ^ h.dep.toNat) (nv : Nat) (hnv : v.length = nv) (hk2 : v.getD 0 0 < 100000000) (c0 c1 c2 c3 : Int) (hpx : aa.fy ⟨h, pl, tr⟩ v = some [c0, c1, c2, c3]) : aC Tryz.prog 151 [.pointer (some ⟨bf, 0, none⟩), .slice pv nv cv] [ai bf 90 [.int .i64 h.w, .int .i64 h.h, .int .i64 h.dep, .int .i64 h.ar, .bool h.aZ, .slice pp pl.length cp, .slice pt tr.length ct, .slice pd nd cd, .slice pk (aa.aR h tr).length ck], Rk, Rv, R] (aG fun e G => e = .tuple #[.agg #[.int .u16 c0, .int .u16 c1, .int .u16 c2, .int .u16 c3], .bool true] ∧ G = [ai bf 90 [.int .i64 h.w, .int .i64 h.h, .int .i64 h.dep, .int .i64 h.ar, .bool h.aZ, .slice pp pl.length cp, .slice pt tr.length ct, .slice pd nd cd, .slice pk (aa.aR h tr).length ck], Rk, Rv, R]) := by
 subst hnv
 exact GH h bf pp pl cp pt tr ct pd nd cd pk ck R hP hT hcp hB hBt hpl htl pv cv v Rk Rv hRk hRv hf hvl hvx hk2 c0 c1 c2 c3 hpx
theorem JI {h : aa.Hd} {row : List Int} {i : Nat} (hd : aa.iy h.dep) (hp : 1 ≤ aa.parts h.ar) : (aa.dJ h row i).getD 0 0 < 100000000 := by
 have h1 := aa.uT (h := h) (row := row) (x := i) _ (aa.hG (l := aa.dJ h row i) (i := 0) (by rw [aa.kH]; omega))
 have := aa.lO hd
 omega
set_option maxHeartbeats 8000000 in
theorem BE (h : aa.Hd) (bf : Nat) (pp : Option Addr) (pl : List Int) (cp : Nat) (pt : Option Addr) (tr : List Int) (ct : Nat) (pd : Option Addr) (nd cd : Nat) (pk : Option Addr) (ck : Nat) (R : ab) (hP : ∀ w0 h, R w0 h → aE U5 pp pl.length pl w0 h) (hT : ∀ w0 h, R w0 h → aE U5 pt tr.length tr w0 h) (hcp : pl.length ≤ cp) (hB : af.ak pl) (hBt : af.ak tr) (hpl : pl.length < 500000000) (htl : tr.length < 500000000) (Rk : ab) (hRk : ∀ w0 h_, Rk w0 h_ → aE (aD 3 .i64) pk (aa.aR h tr).length (aa.aR h tr) w0 h_) (hf : aa.fu ⟨h, pl, tr⟩) (hs : aa.aW h.w h.h = 0) (q : Option Addr) (n c : Nat) (hn : (n : Int) = 4 * h.w * h.h) (hcap : n ≤ c) (pix : List Int) (hpx0 : pix.length = n) (p : aa.Ps) (hp : aa.kb p h.w h.h) (yy : Nat) (hyy : (yy : Int) < p.h) (pb : Option Addr) (cb : Nat) (row : List Int) (hrl : row.length < 500000000) (hBr : af.ak row) (Rb : ab) (hRb : ∀ w0 h, Rb w0 h → aE U5 pb row.length row w0 h) (hbits : ∀ i : Nat, (i : Int) < p.w → i * (aa.parts h.ar).toNat * h.dep.toNat + (aa.parts h.ar).toNat * h.dep.toNat ≤ 8 * row.length) : aC Tryz.prog 121 [.pointer (some ⟨bf, 0, none⟩), .agg #[.int .i64 h.w, .int .i64 h.h, .slice q n c], .agg #[.int .i64 p.x, .int .i64 p.y, .int .i64 p.dx, .int .i64 p.dy, .int .i64 p.w, .int .i64 p.h], .int .i64 (yy : Int), .slice pb row.length cb] [ai bf 90 [.int .i64 h.w, .int .i64 h.h, .int .i64 h.dep, .int .i64 h.ar, .bool h.aZ, .slice pp pl.length cp, .slice pt tr.length ct, .slice pd nd cd, .slice pk (aa.aR h tr).length ck], Row (aD 62 .u16) q n c pix, Rk, Rb, R] (aG fun v G => (aa.dS ⟨h, pl, tr⟩ p (yy : Int) row p.w.toNat 0 pix = none ∧ v = .bool false ∧ ∃ P, P.length = n ∧ G = [ai bf 90 [.int .i64 h.w, .int .i64 h.h, .int .i64 h.dep, .int .i64 h.ar, .bool h.aZ, .slice pp pl.length cp, .slice pt tr.length ct, .slice pd nd cd, .slice pk (aa.aR h tr).length ck], Row (aD 62 .u16) q n c P, Rk, Rb, R]) ∨ ∃ P, aa.dS ⟨h, pl, tr⟩ p (yy : Int) row p.w.toNat 0 pix = some P ∧ P.length = n ∧ v = .bool true ∧ G = [ai bf 90 [.int .i64 h.w, .int .i64 h.h, .int .i64 h.dep, .int .i64 h.ar, .bool h.aZ, .slice pp pl.length cp, .slice pt tr.length ct, .slice pd nd cd, .slice pk (aa.aR h tr).length ck], Row (aD 62 .u16) q n c P, Rk, Rb, R]) := by
 refine au [(0, _), (1, _), (2, _), (3, _), (4, _)] Tryz.func121 rfl Tryz.ntmps121 rfl rfl ?_
 intro w0 F
 have hde : aa.deep h.ar h.dep := by unfold aa.fu at hf; exact hf.1
 have hpc := aa.gi hde
 have hdi := aa.iU (aa.gp hde)
 obtain ⟨N, hN⟩ : ∃ N, N = (aa.parts h.ar).toNat := ⟨_, rfl⟩
 obtain ⟨D, hD⟩ : ∃ D, D = h.dep.toNat := ⟨_, rfl⟩
 have hN2 : aa.parts h.ar = (N : Int) := by omega
 have hD2 : h.dep = (D : Int) := by omega
 have hpo := hp
 unfold aa.kb aa.iX at hpo
 obtain ⟨⟨hx0, hx1, hy0, hy1, hdx, hdy, hw0, hw1, hh0, hh1⟩, hix, hiy⟩ := hpo
 have hsd := aa.jj hs
 obtain ⟨RES, hRES⟩ : ∃ r, r = aa.dS ⟨h, pl, tr⟩ p (yy : Int) row p.w.toNat 0 pix := ⟨_, rfl⟩
 rw [← hRES]
 refine (Qr)<|(rF) ?_
 intro b6
 refine iL rfl (cs := [_, _, _, _, _, _]) rfl rfl ?_
 intro b7
 refine (Q1) ?_
 refine aj (yc pb cb row Rb hRb hrl) V.Ow  rfl (.cons jJ .nil) rfl ?_
 rintro _ _ ⟨bx, rfl, rfl⟩
 refine (Qn) ?_
 refine oV (az V.s3 rfl jB rfl)<|aj (iu h.ar) V.kn  rfl .nil rfl ?_
 rintro _ _ ⟨rfl, rfl⟩
 rw [hN2]
 refine kO N N (I3) rfl rfl V.cA V.z3 rfl rfl rfl rfl (by omega) (by omega) rfl rfl ?_
 intro b25
 refine (Qc)<|(QA)<|(Q8) ?_
 rw [show HW bx row 0 [] 0 = HW bx row (0 * N * D) [] 0 from by rw [Nat.zero_mul, Nat.zero_mul]]
 rw [show List.replicate N (aD 3 .i64).d = List.replicate N 0 from rfl]
 refine gM (fun (i : Nat) (Vo : List Int) (P : List Int) => [(0, .pointer (some ⟨bf, 0, none⟩)), (3, .int .i64 (yy : Int)), (6, .pointer (some ⟨b6, 0, none⟩)), (7, .pointer (some ⟨b7, 0, none⟩)), (11, .pointer (some ⟨bx, 0, none⟩)), (12, .slice (some ⟨b25, 0, none⟩) N N), (27, .int .i64 p.w), (28, .int .i64 (i : Int))]) (fun (i : Nat) (Vo : List Int) (P : List Int) => HW bx row (i * N * D) [] 0 :: Row (aD 3 .i64) (some ⟨b25, 0, none⟩) N N Vo :: ai b6 26 [.int .i64 h.w, .int .i64 h.h, .slice q n c] :: ai b7 145 [.int .i64 p.x, .int .i64 p.y, .int .i64 p.dx, .int .i64 p.dy, .int .i64 p.w, .int .i64 p.h] :: ai bf 90 [.int .i64 h.w, .int .i64 h.h, .int .i64 h.dep, .int .i64 h.ar, .bool h.aZ, .slice pp pl.length cp, .slice pt tr.length ct, .slice pd nd cd, .slice pk (aa.aR h tr).length ck] :: Row (aD 62 .u16) q n c P :: Rk :: Rb :: R :: F) (fun (i : Nat) (Vo : List Int) (P : List Int) => (i : Int) ≤ p.w ∧ Vo.length = N ∧ P.length = n ∧ aa.dS ⟨h, pl, tr⟩ p (yy : Int) row (p.w.toNat - i) i P = RES) (fun (i : Nat) (Vo : List Int) (P : List Int) => p.w.toNat - i) (i3 (0) (List.replicate N 0) (pix) ?_ (fz (bN ln)) (sub (.cons ay (aq (.cons bj (.cons ay (.cons ay (.cons ay (.cons ay (.cons dg (.cons dg .nil))))))))) ao)) ?_
 ·exact ⟨by omega, List.length_replicate, hpx0, hRES.symm⟩
 intro i Vo P
 rintro ⟨hi, hVl, hPl, hres⟩
 have hSl : (aa.dJ h row i).length = N := by rw [aa.kH, hN]
 refine (Qm) ?_
 refine aF rfl (fun h29 => ?_) (fun h29 => ?_)
 ·refine rC TT 19 rfl ?_
  rw [show HW bx row (i * N * D) [] 0 = HW bx row (i * N * D + 0 * D) [] 0 from by rw [Nat.zero_mul, Nat.add_zero], show Row (aD 3 .i64) (some ⟨b25, 0, none⟩) N N Vo = Row (aD 3 .i64) (some ⟨b25, 0, none⟩) N N (aa.vN (aa.dJ h row i) Vo 0) from by rw [aa.W0]]
  refine cB (fun (k : Nat) => [(0, .pointer (some ⟨bf, 0, none⟩)), (3, .int .i64 (yy : Int)), (6, .pointer (some ⟨b6, 0, none⟩)), (7, .pointer (some ⟨b7, 0, none⟩)), (11, .pointer (some ⟨bx, 0, none⟩)), (12, .slice (some ⟨b25, 0, none⟩) N N), (13, .int .i64 (i : Int)), (27, .int .i64 p.w), (28, .int .i64 (i : Int)), (32, .int .i64 (N : Int)), (33, .int .i64 (k : Int))]) (fun (k : Nat) => HW bx row (i * N * D + k * D) [] 0 :: Row (aD 3 .i64) (some ⟨b25, 0, none⟩) N N (aa.vN (aa.dJ h row i) Vo k) :: ai b6 26 [.int .i64 h.w, .int .i64 h.h, .slice q n c] :: ai b7 145 [.int .i64 p.x, .int .i64 p.y, .int .i64 p.dx, .int .i64 p.dy, .int .i64 p.w, .int .i64 p.h] :: ai bf 90 [.int .i64 h.w, .int .i64 h.h, .int .i64 h.dep, .int .i64 h.ar, .bool h.aZ, .slice pp pl.length cp, .slice pt tr.length ct, .slice pd nd cd, .slice pk (aa.aR h tr).length ck] :: Row (aD 62 .u16) q n c P :: Rk :: Rb :: R :: F) (fun (k : Nat) => k ≤ N) (fun (k : Nat) => N - k) (i1 (0) ?_ (jy (bN (bN ln))) (sub (mH (kp .nil)) ao)) ?_
  ·exact Nat.zero_le _
  intro k
  rintro hk
  refine (Qm) ?_
  refine aF rfl (fun h34 => ?_) (fun h34 => ?_)
  ·refine (QB) ?_
   have hkD : k * D + D ≤ N * D := by have := Nat.mul_le_mul_right D (show k + 1 ≤ N by omega); rwa [Nat.add_mul, Nat.one_mul] at this
   have hbi : i * N * D + N * D ≤ 8 * row.length := by rw [hN, hD]; exact hbits i (by omega)
   have hvl := aa.NI (S := (aa.dJ h row i)) (old := Vo) (k := k) (by omega) (by omega)
   refine rC TT 8 rfl<|oV (de (v := .int .i64 (D : Int)) (az V.s3 rfl jB rfl) (congrArg (Value.int .i64) hD2))<|aj (jE bx row (i * N * D + k * D) [] 0 D hrl hBr (by omega) (by omega)) V.sV  rfl (aq .nil) rfl ?_
   rintro _ _ ⟨rfl, rfl⟩
   refine oV (xI V.cA (own dM))<|(YD)<|(A9) ?_
   rw [aa.Xz hN hD hVl (by omega), show i * N * D + k * D + D = i * N * D + (k + 1) * D from by rw [Nat.add_mul, Nat.one_mul, Nat.add_assoc]]
   exact j1 (k + 1) ⟨by omega, by omega⟩ (jy (bN (bN ln))) (sub (mH (kp .nil)) ao)
  ·refine (Qg) ?_
   rcases (aa.LX ⟨h, pl, tr⟩ (aa.dJ h row i)) with hpx | ⟨c0, c1, c2, c3, hpx⟩
   ·refine (Q9) ?_
    obtain rfl : N = k := by omega
    rw [show aa.vN (aa.dJ h row i) Vo N = (aa.dJ h row i) from hSl ▸ aa.OR (by omega)]
    refine (Q4) ?_
    refine aj (PZ h bf pp pl cp pt tr ct pd nd cd pk ck R hP hT hcp hB hBt hpl htl (some ⟨b25, 0, none⟩) N (aa.dJ h row i) Rk (Row (aD 3 .i64) (some ⟨b25, 0, none⟩) N N (aa.dJ h row i)) hRk (fun _ _ hh => by rw [hSl]; exact hh.rd) hf (aa.kH h row i) aa.uT N hSl (JI (aa.gp hde) (by omega)) hpx) V.RI  rfl (.cons iG (.cons jJ (.cons ay (.cons jJ .nil)))) rfl ?_
    rintro _ _ ⟨rfl, rfl⟩
    refine (Qe)<|(ry) ?_
    intro b15
    refine (EK) ?_
    exact rO TT 23 rfl<|ag (aw rfl) (.inl ⟨aa.Oe (f := ⟨h, pl, tr⟩) (by omega) hpx hres, rfl, P, hPl, rfl⟩) (sub (.cons ay (.cons yd (.cons ay (.cons mF (.cons bj .nil))))) rn)
   ·refine (Q9) ?_
    obtain rfl : N = k := by omega
    rw [show aa.vN (aa.dJ h row i) Vo N = (aa.dJ h row i) from hSl ▸ aa.OR (by omega)]
    refine (Q4) ?_
    refine aj (ME h bf pp pl cp pt tr ct pd nd cd pk ck R hP hT hcp hB hBt hpl htl (some ⟨b25, 0, none⟩) N (aa.dJ h row i) Rk (Row (aD 3 .i64) (some ⟨b25, 0, none⟩) N N (aa.dJ h row i)) hRk (fun _ _ hh => by rw [hSl]; exact hh.rd) hf (aa.kH h row i) aa.uT N hSl (JI (aa.gp hde) (by omega)) c0 c1 c2 c3 hpx) V.RI  rfl (.cons iG (.cons jJ (.cons ay (.cons jJ .nil)))) rfl ?_
    rintro _ _ ⟨rfl, rfl⟩
    refine (Qe)<|(ry) ?_
    intro b15
    refine (EK)<|(Qu) ?_
    have hnn : 0 ≤ (i : Int) * p.dx := Int.mul_nonneg (by omega) (by omega)
    have hnm : 0 ≤ (yy : Int) * p.dy := Int.mul_nonneg (by omega) (by omega)
    have hxx := hix i (by omega) (by omega)
    have hyv := hiy yy (by omega) (by omega)
    have hpi := aa.tH (w := h.w) (h := h.h) (x := (p.x + ((i : Int) * p.dx))) (y := (p.y + ((yy : Int) * p.dy))) ⟨by omega, by omega⟩ ⟨by omega, by omega⟩
    have h44 : 4 * h.w * h.h = 4 * (h.w * h.h) := Int.mul_assoc _ _ _
    refine (Qo) ?_
    refine oV (dH V.gn rfl JN (vs := [_, _, _]) rfl rfl)<|oV (bp V.Rp rfl)<|(IS)<|(Q7)<|(IS) ?_
    refine iP TT 3 rfl (by omega)<|(IS)<|(Q7)<|(IS)<|(vA) ?_
    refine oV (dH V.kA rfl aA (vs := [_, _, _, _]) rfl rfl)<|aj (T8 h.w h.h hs q n c hn hcap P (p.x + ((i : Int) * p.dx)) (p.y + ((yy : Int) * p.dy)) ⟨by omega, by omega⟩ ⟨by omega, by omega⟩ c0 c1 c2 c3) V.Xp  rfl (.cons Wx .nil) rfl ?_
    rintro _ _ ⟨rfl, rfl⟩
    refine (A9) ?_
    rw [show i * N * D + N * D = (i + 1) * N * D from by rw [Nat.add_mul, Nat.add_mul, Nat.one_mul]]
    exact j3 (i + 1) (aa.dJ h row i) (aa.kW h.w P (p.x + ((i : Int) * p.dx)) (p.y + ((yy : Int) * p.dy)) [c0, c1, c2, c3]) ⟨⟨by omega, hSl, by rw [aa.GV rfl (by omega)]; exact hPl, aa.N4 (f := ⟨h, pl, tr⟩) (by omega) hpx hres⟩, by omega⟩ (fz (bN ln)) (sub (.cons mF (.cons iG (.cons jJ (.cons jJ (.cons bj (aq (.cons ay (.cons bj (.cons ay .nil))))))))) bC)
 ·refine (nS) ?_
  exact ag (aw rfl) (.inr ⟨P, aa.SP (f := ⟨h, pl, tr⟩) (by omega) hres, hPl, rfl, rfl⟩) (sub (.cons iG (.cons iG (.cons iG (.cons iG (.cons iG .nil))))) k6)
theorem Ko (kind : Int) (p1 : Option Addr) (c1 n1 : Nat) (L1 : List Int) (R1 : ab) (hR1 : ∀ w0 h, R1 w0 h → aE U5 p1 n1 L1 w0 h) (hn1 : L1.length = n1) (hB1 : af.ak L1) (p2 : Option Addr) (c2 n2 : Nat) (L2 : List Int) (R2 : ab) (hR2 : ∀ w0 h, R2 w0 h → aE U5 p2 n2 L2 w0 h) (hn2 : L2.length = n2) (hB2 : af.ak L2) (back : Nat) (hbk : 1 ≤ back ∧ back ≤ 8) (h2 : n2 = 0 ∨ n2 = n1) (hk : 0 ≤ kind) (hn1s : n1 < 500000000) (hq : 4 < kind) : aC Tryz.prog 120 [.int .i64 kind, .slice p1 n1 c1, .slice p2 n2 c2, .int .i64 (back : Int)] [R1, R2] (aG fun v G => v = .tuple #[.slice none 0 0, .bool false] ∧ G = [R1, R2]) := by
 refine (Vi) ?_
 rintro e2 G ⟨v, rfl, (⟨_, rfl, rfl⟩ | ⟨h, _⟩)⟩
 ·exact ⟨_, rfl, rfl, rfl⟩
 ·exact absurd hq h
theorem Kw (kind : Int) (p1 : Option Addr) (c1 n1 : Nat) (L1 : List Int) (R1 : ab) (hR1 : ∀ w0 h, R1 w0 h → aE U5 p1 n1 L1 w0 h) (hn1 : L1.length = n1) (hB1 : af.ak L1) (p2 : Option Addr) (c2 n2 : Nat) (L2 : List Int) (R2 : ab) (hR2 : ∀ w0 h, R2 w0 h → aE U5 p2 n2 L2 w0 h) (hn2 : L2.length = n2) (hB2 : af.ak L2) (back : Nat) (hbk : 1 ≤ back ∧ back ≤ 8) (h2 : n2 = 0 ∨ n2 = n1) (hk : 0 ≤ kind) (hn1s : n1 < 500000000) (hq : ¬ 4 < kind) : aC Tryz.prog 120 [.int .i64 kind, .slice p1 n1 c1, .slice p2 n2 c2, .int .i64 (back : Int)] [R1, R2] (aG fun v G => ∃ a : Option Addr × Nat, v = .tuple #[.slice a.1 n1 a.2, .bool true] ∧ G = [Row U5 a.1 n1 a.2 (aa.eJ kind L1 L2 back), R1, R2]) := by
 refine (Vi) ?_
 rintro e2 G ⟨v, rfl, (⟨h, _⟩ | ⟨_, q, cq, rfl, rfl⟩)⟩
 ·exact absurd h hq
 ·exact ⟨_, rfl, (q, cq), rfl, rfl⟩
theorem SD (h : aa.Hd) (bf : Nat) (pp : Option Addr) (pl : List Int) (cp : Nat) (pt : Option Addr) (tr : List Int) (ct : Nat) (pd : Option Addr) (nd cd : Nat) (pk : Option Addr) (ck : Nat) (R : ab) (hP : ∀ w0 h, R w0 h → aE U5 pp pl.length pl w0 h) (hT : ∀ w0 h, R w0 h → aE U5 pt tr.length tr w0 h) (hcp : pl.length ≤ cp) (hB : af.ak pl) (hBt : af.ak tr) (hpl : pl.length < 500000000) (htl : tr.length < 500000000) (Rk : ab) (hRk : ∀ w0 h_, Rk w0 h_ → aE (aD 3 .i64) pk (aa.aR h tr).length (aa.aR h tr) w0 h_) (hf : aa.fu ⟨h, pl, tr⟩) (hs : aa.aW h.w h.h = 0) (q : Option Addr) (n c : Nat) (hn : (n : Int) = 4 * h.w * h.h) (hcap : n ≤ c) (pix : List Int) (hpx0 : pix.length = n) (p : aa.Ps) (hp : aa.kb p h.w h.h) (yy : Nat) (hyy : (yy : Int) < p.h) (pb : Option Addr) (cb : Nat) (row : List Int) (hrl : row.length < 500000000) (hBr : af.ak row) (Rb : ab) (hRb : ∀ w0 h, Rb w0 h → aE U5 pb row.length row w0 h) (hbits : ∀ i : Nat, (i : Int) < p.w → i * (aa.parts h.ar).toNat * h.dep.toNat + (aa.parts h.ar).toNat * h.dep.toNat ≤ 8 * row.length) (nl : Nat) (hnl : row.length = nl) (hr : aa.dS ⟨h, pl, tr⟩ p (yy : Int) row p.w.toNat 0 pix = none) : aC Tryz.prog 121 [.pointer (some ⟨bf, 0, none⟩), .agg #[.int .i64 h.w, .int .i64 h.h, .slice q n c], .agg #[.int .i64 p.x, .int .i64 p.y, .int .i64 p.dx, .int .i64 p.dy, .int .i64 p.w, .int .i64 p.h], .int .i64 (yy : Int), .slice pb nl cb] [ai bf 90 [.int .i64 h.w, .int .i64 h.h, .int .i64 h.dep, .int .i64 h.ar, .bool h.aZ, .slice pp pl.length cp, .slice pt tr.length ct, .slice pd nd cd, .slice pk (aa.aR h tr).length ck], Row (aD 62 .u16) q n c pix, Rk, Rb, R] (aG fun v G => v = .bool false ∧ ∃ P, P.length = n ∧ G = [ai bf 90 [.int .i64 h.w, .int .i64 h.h, .int .i64 h.dep, .int .i64 h.ar, .bool h.aZ, .slice pp pl.length cp, .slice pt tr.length ct, .slice pd nd cd, .slice pk (aa.aR h tr).length ck], Row (aD 62 .u16) q n c P, Rk, Rb, R]) := by
 subst hnl
 refine (BE h bf pp pl cp pt tr ct pd nd cd pk ck R hP hT hcp hB hBt hpl htl Rk hRk hf hs q n c hn hcap pix hpx0 p hp yy hyy pb cb row hrl hBr Rb hRb hbits).mono ?_
 rintro e2 G ⟨v, rfl, (⟨_, rfl, P, h1, rfl⟩ | ⟨P, h, _⟩)⟩
 ·exact ⟨_, rfl, rfl, P, h1, rfl⟩
 ·rw [hr] at h; cases h
theorem NH (h : aa.Hd) (bf : Nat) (pp : Option Addr) (pl : List Int) (cp : Nat) (pt : Option Addr) (tr : List Int) (ct : Nat) (pd : Option Addr) (nd cd : Nat) (pk : Option Addr) (ck : Nat) (R : ab) (hP : ∀ w0 h, R w0 h → aE U5 pp pl.length pl w0 h) (hT : ∀ w0 h, R w0 h → aE U5 pt tr.length tr w0 h) (hcp : pl.length ≤ cp) (hB : af.ak pl) (hBt : af.ak tr) (hpl : pl.length < 500000000) (htl : tr.length < 500000000) (Rk : ab) (hRk : ∀ w0 h_, Rk w0 h_ → aE (aD 3 .i64) pk (aa.aR h tr).length (aa.aR h tr) w0 h_) (hf : aa.fu ⟨h, pl, tr⟩) (hs : aa.aW h.w h.h = 0) (q : Option Addr) (n c : Nat) (hn : (n : Int) = 4 * h.w * h.h) (hcap : n ≤ c) (pix : List Int) (hpx0 : pix.length = n) (p : aa.Ps) (hp : aa.kb p h.w h.h) (yy : Nat) (hyy : (yy : Int) < p.h) (pb : Option Addr) (cb : Nat) (row : List Int) (hrl : row.length < 500000000) (hBr : af.ak row) (Rb : ab) (hRb : ∀ w0 h, Rb w0 h → aE U5 pb row.length row w0 h) (hbits : ∀ i : Nat, (i : Int) < p.w → i * (aa.parts h.ar).toNat * h.dep.toNat + (aa.parts h.ar).toNat * h.dep.toNat ≤ 8 * row.length) (nl : Nat) (hnl : row.length = nl) (P2 : List Int) (hr : aa.dS ⟨h, pl, tr⟩ p (yy : Int) row p.w.toNat 0 pix = some P2) : aC Tryz.prog 121 [.pointer (some ⟨bf, 0, none⟩), .agg #[.int .i64 h.w, .int .i64 h.h, .slice q n c], .agg #[.int .i64 p.x, .int .i64 p.y, .int .i64 p.dx, .int .i64 p.dy, .int .i64 p.w, .int .i64 p.h], .int .i64 (yy : Int), .slice pb nl cb] [ai bf 90 [.int .i64 h.w, .int .i64 h.h, .int .i64 h.dep, .int .i64 h.ar, .bool h.aZ, .slice pp pl.length cp, .slice pt tr.length ct, .slice pd nd cd, .slice pk (aa.aR h tr).length ck], Row (aD 62 .u16) q n c pix, Rk, Rb, R] (aG fun v G => P2.length = n ∧ v = .bool true ∧ G = [ai bf 90 [.int .i64 h.w, .int .i64 h.h, .int .i64 h.dep, .int .i64 h.ar, .bool h.aZ, .slice pp pl.length cp, .slice pt tr.length ct, .slice pd nd cd, .slice pk (aa.aR h tr).length ck], Row (aD 62 .u16) q n c P2, Rk, Rb, R]) := by
 subst hnl
 refine (BE h bf pp pl cp pt tr ct pd nd cd pk ck R hP hT hcp hB hBt hpl htl Rk hRk hf hs q n c hn hcap pix hpx0 p hp yy hyy pb cb row hrl hBr Rb hRb hbits).mono ?_
 rintro e2 G ⟨v, rfl, (⟨h, _⟩ | ⟨P, h, h1, rfl, rfl⟩)⟩
 ·rw [hr] at h; cases h
 ·rw [hr] at h; cases h; exact ⟨_, rfl, h1, rfl, rfl⟩
structure IC where
 a : Nat
 pz : Option Addr
 cz : Nat
 pa : Option Addr
 na : Nat
 ca : Nat
 A : List Int
 P : List Int
set_option maxHeartbeats 8000000 in
theorem xl (h : aa.Hd) (bf : Nat) (pp : Option Addr) (pl : List Int) (cp : Nat) (pt : Option Addr) (tr : List Int) (ct : Nat) (pd : Option Addr) (nd cd : Nat) (pk : Option Addr) (ck : Nat) (R : ab) (hP : ∀ w0 h, R w0 h → aE U5 pp pl.length pl w0 h) (hT : ∀ w0 h, R w0 h → aE U5 pt tr.length tr w0 h) (hcp : pl.length ≤ cp) (hB : af.ak pl) (hBt : af.ak tr) (hpl : pl.length < 500000000) (htl : tr.length < 500000000) (Rk : ab) (hRk : ∀ w0 h_, Rk w0 h_ → aE (aD 3 .i64) pk (aa.aR h tr).length (aa.aR h tr) w0 h_) (hf : aa.fu ⟨h, pl, tr⟩) (hs : aa.aW h.w h.h = 0) (q : Option Addr) (n c : Nat) (hn : (n : Int) = 4 * h.w * h.h) (hcap : n ≤ c) (pix : List Int) (hpx0 : pix.length = n) (p : aa.Ps) (hp : aa.kb p h.w h.h) (Dt : List Int) (hDB : af.ak Dt) (hDl : Dt.length < 500000000) (nr : Nat) (hnr : (nr : Int) = aa.dv p.w (aa.parts h.ar * h.dep)) (back : Nat) (hback : (back : Int) = max 1 ((aa.parts h.ar * h.dep) / 8)) (at0 : Nat) (hat : at0 + p.h.toNat * (1 + nr) ≤ Dt.length) (pb : Option Addr) (cb : Nat) (Rb : ab) (hRb : ∀ w0 h, Rb w0 h → aE U5 pb (Dt.length - at0) (Dt.drop at0) w0 h) (hcb : Dt.length - at0 ≤ cb) : aC Tryz.prog 86 [.pointer (some ⟨bf, 0, none⟩), .agg #[.int .i64 h.w, .int .i64 h.h, .slice q n c], .agg #[.int .i64 p.x, .int .i64 p.y, .int .i64 p.dx, .int .i64 p.dy, .int .i64 p.w, .int .i64 p.h], .slice pb (Dt.length - at0) cb] [ai bf 90 [.int .i64 h.w, .int .i64 h.h, .int .i64 h.dep, .int .i64 h.ar, .bool h.aZ, .slice pp pl.length cp, .slice pt tr.length ct, .slice pd nd cd, .slice pk (aa.aR h tr).length ck], Row (aD 62 .u16) q n c pix, Rk, Rb, R] (aG fun v G => (aa.eg ⟨h, pl, tr⟩ Dt nr back p p.h.toNat 0 at0 [] pix = none ∧ v = .tuple #[.slice none 0 0, .bool false] ∧ ∃ P, P.length = n ∧ G = [ai bf 90 [.int .i64 h.w, .int .i64 h.h, .int .i64 h.dep, .int .i64 h.ar, .bool h.aZ, .slice pp pl.length cp, .slice pt tr.length ct, .slice pd nd cd, .slice pk (aa.aR h tr).length ck], Row (aD 62 .u16) q n c P, Rk, Rb, R]) ∨ ∃ at2 P pz cz, aa.eg ⟨h, pl, tr⟩ Dt nr back p p.h.toNat 0 at0 [] pix = some (at2, P) ∧ P.length = n ∧ at2 = at0 + p.h.toNat * (1 + nr) ∧ (∀ w0 h, Rb w0 h → aE U5 pz (Dt.length - at2) (Dt.drop at2) w0 h) ∧ Dt.length - at2 ≤ cz ∧ v = .tuple #[.slice pz (Dt.length - at2) cz, .bool true] ∧ G = [ai bf 90 [.int .i64 h.w, .int .i64 h.h, .int .i64 h.dep, .int .i64 h.ar, .bool h.aZ, .slice pp pl.length cp, .slice pt tr.length ct, .slice pd nd cd, .slice pk (aa.aR h tr).length ck], Row (aD 62 .u16) q n c P, Rk, Rb, R]) := by
 refine au [(0, _), (1, _), (2, _), (3, _)] Tryz.func86 rfl Tryz.ntmps86 rfl rfl ?_
 intro w0 F
 have hde : aa.deep h.ar h.dep := by unfold aa.fu at hf; exact hf.1
 have hpc := aa.gi hde
 have hdi := aa.iU (aa.gp hde)
 have hpo := hp
 unfold aa.kb aa.iX at hpo
 obtain ⟨⟨hx0, hx1, hy0, hy1, hdx, hdy, hw0, hw1, hh0, hh1⟩, hix, hiy⟩ := hpo
 have hsd := aa.jj hs
 have hbits := aa.lh hde
 have hbk : 1 ≤ back ∧ back ≤ 8 := by omega
 obtain ⟨RES, hRES⟩ : ∃ r, r = aa.eg ⟨h, pl, tr⟩ Dt nr back p p.h.toNat 0 at0 [] pix := ⟨_, rfl⟩
 rw [← hRES]
 refine (Qr)<|(rF) ?_
 intro b5
 refine iL rfl (cs := [_, _, _, _, _, _]) rfl rfl ?_
 intro b6
 refine rO TT 5 rfl ?_
 refine wN [pz 0 [] [0], pz 1 [0] [], pz 3 [1] [], pz 7 [2] [], pz 15 [3] [], pz 31 [4] [], pz 0 [] [0], pz 64 [6] [], pz 192 [7] [], pz 448 [8] [], pz 960 [9] [], pz 2047 [5, 10] [], pz 4095 [11] []] [⟨fun y => ai b6 145 [.int .i64 p.x, .int .i64 p.y, .int .i64 p.dx, .int .i64 p.dy, .int .i64 p.w, .int .i64 p.h], none, none, []⟩, ⟨fun y => ai b5 26 [.int .i64 h.w, .int .i64 h.h, .slice q n c], none, none, []⟩, ⟨fun y => ai bf 90 [.int .i64 h.w, .int .i64 h.h, .int .i64 h.dep, .int .i64 h.ar, .bool h.aZ, .slice pp pl.length cp, .slice pt tr.length ct, .slice pd nd cd, .slice pk (aa.aR h tr).length ck], none, none, [4, 10]⟩, ⟨fun y => Row (aD 62 .u16) q n c pix, none, none, []⟩, ⟨fun y => Rk, none, none, []⟩, ⟨fun y => Rb, none, none, []⟩, ⟨fun y => R, none, none, []⟩] F V.mixed ?_
 refine nM ?_
 refine nN ?_
 refine nG V.gD ?_
 refine nG V.qN ?_
 refine nR (fun y FF hA => az V.s3 rfl aA rfl) ?_
 refine nE (fun y FF hA => aX (Post := []) (iu h.ar) V.kn rfl .nil (fun v G h => by rcases h with ⟨rfl, rfl⟩; exact ⟨rfl, .refl _⟩)) ?_
 refine nM ?_
 refine nN ?_
 refine nG V.gD ?_
 refine nG V.wz ?_
 refine nR (fun y FF hA => az V.s3 rfl aA rfl) ?_
 refine nV (fun y hA L => fP (r := (aa.parts h.ar * h.dep)) rfl rfl wI) ?_
 refine nA ?_
 refine cN ?_
 intro y hA
 clear hA
 refine bg<|bD [(0, .pointer (some ⟨bf, 0, none⟩)), (3, .slice pb (Dt.length - at0) cb), (5, .pointer (some ⟨b5, 0, none⟩)), (6, .pointer (some ⟨b6, 0, none⟩)), (10, .int .i64 (aa.parts h.ar * h.dep))] (.cons (d := 0) rfl (.cons (d := 3) rfl (.cons (d := 5) rfl (.cons (d := 6) rfl (.cons (d := 10) rfl (.nil _))))))<|bb (M := ai b6 145 [.int .i64 p.x, .int .i64 p.y, .int .i64 p.dx, .int .i64 p.dy, .int .i64 p.w, .int .i64 p.h] :: ai b5 26 [.int .i64 h.w, .int .i64 h.h, .slice q n c] :: ai bf 90 [.int .i64 h.w, .int .i64 h.h, .int .i64 h.dep, .int .i64 h.ar, .bool h.aZ, .slice pp pl.length cp, .slice pt tr.length ct, .slice pd nd cd, .slice pk (aa.aR h tr).length ck] :: Row (aD 62 .u16) q n c pix :: Rk :: Rb :: R :: F) (fun _ _ h => h)<|(tv)<|(Q6) ?_
 refine aj (ID p.w (aa.parts h.ar * h.dep) ⟨hw0, hw1⟩ ⟨by omega, by omega⟩) V.Oh  rfl .nil rfl ?_
 rintro _ _ ⟨rfl, rfl⟩
 rw [← hnr]
 refine (Q6)<|(pT) ?_
 refine oV (de (v := .int .i64 (back : Int)) (BB rfl rfl) (congrArg (Value.int .i64) ((aa.RO _).trans hback.symm)))<|(Qu)<|(Ql)<|(Q8)<|(vg) ?_
 refine gl (fun (yv : Nat) (s : IC) => [(0, .pointer (some ⟨bf, 0, none⟩)), (3, .slice s.pz (Dt.length - s.a) s.cz), (5, .pointer (some ⟨b5, 0, none⟩)), (6, .pointer (some ⟨b6, 0, none⟩)), (11, .int .i64 (nr : Int)), (12, .int .i64 (back : Int)), (13, .slice s.pa s.na s.ca), (37, .int .i64 p.h), (38, .int .i64 (yv : Int))]) (fun (yv : Nat) (s : IC) => Rb :: Row U5 s.pa s.na s.ca s.A :: ai b5 26 [.int .i64 h.w, .int .i64 h.h, .slice q n c] :: ai b6 145 [.int .i64 p.x, .int .i64 p.y, .int .i64 p.dx, .int .i64 p.dy, .int .i64 p.w, .int .i64 p.h] :: ai bf 90 [.int .i64 h.w, .int .i64 h.h, .int .i64 h.dep, .int .i64 h.ar, .bool h.aZ, .slice pp pl.length cp, .slice pt tr.length ct, .slice pd nd cd, .slice pk (aa.aR h tr).length ck] :: Row (aD 62 .u16) q n c s.P :: Rk :: R :: F) (fun (yv : Nat) (s : IC) => (yv : Int) ≤ p.h ∧ s.a = at0 + yv * (1 + nr) ∧ s.P.length = n ∧ s.A.length = s.na ∧ (s.na = 0 ∨ s.na = nr) ∧ af.ak s.A ∧ (∀ w0 h, Rb w0 h → aE U5 s.pz (Dt.length - s.a) (Dt.drop s.a) w0 h) ∧ Dt.length - s.a ≤ s.cz ∧ aa.eg ⟨h, pl, tr⟩ Dt nr back p (p.h.toNat - yv) yv s.a s.A s.P = RES) (fun (yv : Nat) (s : IC) => p.h.toNat - yv) (i2 (0) (⟨at0, pb, cb, none, 0, 0, [], pix⟩) ?_ (eQ (bN ln)) (sub (.cons mF (aq (.cons ay (.cons dg (.cons dg (.cons dg (.cons dg (.cons dg .nil)))))))) ao)) ?_
 ·exact ⟨by omega, by simp, hpx0, rfl, .inl rfl, aa.gK, hRb, hcb, hRES.symm⟩
 intro yv s
 rintro ⟨hy, ha, hPl, hAl, hAn, hAB, hz, hcz, hres⟩
 refine (Qm) ?_
 refine aF rfl (fun h39 => ?_) (fun h39 => ?_)
 ·refine (QB) ?_
  rcases (aa.S4 ⟨h, pl, tr⟩ Dt nr back p yv s.a s.A s.P) with hk4 | ⟨hk4, hr⟩ | ⟨hk4, P2, hr⟩
  ·refine (Q9) ?_
   have hyh : (yv : Int) < p.h := by omega
   have hya : (yv + 1) * (1 + nr) ≤ p.h.toNat * (1 + nr) := Nat.mul_le_mul_right _ (by omega)
   rw [Nat.add_mul, Nat.one_mul] at hya
   have hKD : U5.g (Dt.drop s.a) 0 = (Dt.getD s.a 0) := aa.fF Dt s.a 0
   have hKB : 0 ≤ U5.g (Dt.drop s.a) 0 ∧ U5.g (Dt.drop s.a) 0 < 256 := hKD ▸ hDB.get _
   have hdl : (Dt.drop s.a).length = Dt.length - s.a := List.length_drop
   have hL1l : ((Dt.drop (s.a + 1)).take nr).length = nr := by rw [List.length_take, List.length_drop]; omega
   have hUl : (aa.eJ (Dt.getD s.a 0) ((Dt.drop (s.a + 1)).take nr) s.A back).length = nr := (aa.uq ..).trans hL1l
   have hS1 : ∀ w0 h, Rb w0 h → aE U5 (dm s.pz 1 s.cz 1) nr ((Dt.drop (s.a + 1)).take nr) w0 h := fun w0 h hh => by have := kV (cap := 0) (fT (c := U5) hz hdl 1 s.cz (by omega) hcz) nr (by omega) w0 h hh; rwa [List.drop_drop] at this
   refine wN [pz 0 [] [3], pz 1 [0] [], pz 3 [1] [], pz 7 [2] [], pz 0 [] [3], pz 0 [] [11], pz 32 [5] [], pz 112 [4, 6] [], pz 0 [] [13], pz 0 [] [12], pz 1023 [3, 7, 8, 9] [], pz 2047 [10] [], pz 4095 [11] [], pz 4095 [11] [], pz 8191 [12] [], pz 32767 [13] []] [⟨fun y => Rb, none, none, [1, 2, 10]⟩, ⟨fun y => Row U5 s.pa s.na s.ca s.A, none, none, [10]⟩, ⟨fun y => ai b5 26 [.int .i64 h.w, .int .i64 h.h, .slice q n c], none, none, []⟩, ⟨fun y => ai b6 145 [.int .i64 p.x, .int .i64 p.y, .int .i64 p.dx, .int .i64 p.dy, .int .i64 p.w, .int .i64 p.h], none, none, []⟩, ⟨fun y => ai bf 90 [.int .i64 h.w, .int .i64 h.h, .int .i64 h.dep, .int .i64 h.ar, .bool h.aZ, .slice pp pl.length cp, .slice pt tr.length ct, .slice pd nd cd, .slice pk (aa.aR h tr).length ck], none, none, []⟩, ⟨fun y => Row (aD 62 .u16) q n c s.P, none, none, []⟩, ⟨fun y => Rk, none, none, []⟩, ⟨fun y => R, none, none, []⟩] F V.mixed ?_
   refine nM ?_
   refine (YT) ?_
   refine (Za) ?_
   refine (YB) ?_
   iterate 2 refine nM ?_
   refine (M1)<|(OD) ?_
   iterate 2 refine nM ?_
   refine nE (fun y FF hA => aX (Post := [Rb, Row U5 s.pa s.na s.ca s.A]) (Ko (Dt.getD s.a 0) (dm s.pz 1 s.cz 1) (s.cz - 1) nr ((Dt.drop (s.a + 1)).take nr) Rb hS1 hL1l (aa.fU (aa.dT hDB _) _) s.pa s.ca s.na s.A (Row U5 s.pa s.na s.ca s.A) (fun _ _ hh => hh.rd) hAl hAB back hbk (by omega) (hDB.get _).1 (by omega) hk4) V.SG rfl (aT .nil) (fun v G h => by rcases h with ⟨rfl, rfl⟩; exact ⟨rfl, .refl _⟩))<|nM ?_
   iterate 2 refine nV (fun y hA L => dQ rfl rfl) ?_
   iterate 2 refine nA ?_
   refine (Qb) ?_
   intro y hA
   clear hA
   refine bg<|bD [(0, .pointer (some ⟨bf, 0, none⟩)), (3, .slice s.pz (Dt.length - s.a) s.cz), (5, .pointer (some ⟨b5, 0, none⟩)), (6, .pointer (some ⟨b6, 0, none⟩)), (11, .int .i64 (nr : Int)), (12, .int .i64 (back : Int)), (14, .int .i64 (yv : Int)), (15, .slice none 0 0), (16, .bool false), (37, .int .i64 p.h), (38, .int .i64 (yv : Int))] (.cons (d := 0) rfl (.cons (d := 3) rfl (.cons (d := 5) rfl (.cons (d := 6) rfl (.cons (d := 11) rfl (.cons (d := 12) rfl (.cons (d := 14) rfl (.cons (d := 15) rfl (.cons (d := 16) rfl (.cons (d := 37) rfl (.cons (d := 38) rfl (.nil _))))))))))))<|bb (M := Rb :: Row U5 s.pa s.na s.ca s.A :: ai b5 26 [.int .i64 h.w, .int .i64 h.h, .slice q n c] :: ai b6 145 [.int .i64 p.x, .int .i64 p.y, .int .i64 p.dx, .int .i64 p.dy, .int .i64 p.w, .int .i64 p.h] :: ai bf 90 [.int .i64 h.w, .int .i64 h.h, .int .i64 h.dep, .int .i64 h.ar, .bool h.aZ, .slice pp pl.length cp, .slice pt tr.length ct, .slice pd nd cd, .slice pk (aa.aR h tr).length ck] :: Row (aD 62 .u16) q n c s.P :: Rk :: R :: F) (fun _ _ h => h)<|bb (sub .nil (.keep (.skip (.keep (.keep (.keep (.keep (.keep (.keep .refl))))))))) ?_
   simp only [List.nil_append]
   refine rC TT 30 rfl ?_
   (exact ag (G := [ai bf 90 [.int .i64 h.w, .int .i64 h.h, .int .i64 h.dep, .int .i64 h.ar, .bool h.aZ, .slice pp pl.length cp, .slice pt tr.length ct, .slice pd nd cd, .slice pk (aa.aR h tr).length ck], Row (aD 62 .u16) q n c s.P, Rk, Rb, R]) (eC rfl rfl) (.inl ⟨aa.Lg hyh hk4 hres, rfl, s.P, hPl, rfl⟩) (sub (.cons dw (.cons dw (.cons dw (aq (.cons bj .nil))))) fS))
  ·refine (Q9) ?_
   have hyh : (yv : Int) < p.h := by omega
   have hya : (yv + 1) * (1 + nr) ≤ p.h.toNat * (1 + nr) := Nat.mul_le_mul_right _ (by omega)
   rw [Nat.add_mul, Nat.one_mul] at hya
   have hKD : U5.g (Dt.drop s.a) 0 = (Dt.getD s.a 0) := aa.fF Dt s.a 0
   have hKB : 0 ≤ U5.g (Dt.drop s.a) 0 ∧ U5.g (Dt.drop s.a) 0 < 256 := hKD ▸ hDB.get _
   have hdl : (Dt.drop s.a).length = Dt.length - s.a := List.length_drop
   have hL1l : ((Dt.drop (s.a + 1)).take nr).length = nr := by rw [List.length_take, List.length_drop]; omega
   have hUl : (aa.eJ (Dt.getD s.a 0) ((Dt.drop (s.a + 1)).take nr) s.A back).length = nr := (aa.uq ..).trans hL1l
   have hS1 : ∀ w0 h, Rb w0 h → aE U5 (dm s.pz 1 s.cz 1) nr ((Dt.drop (s.a + 1)).take nr) w0 h := fun w0 h hh => by have := kV (cap := 0) (fT (c := U5) hz hdl 1 s.cz (by omega) hcz) nr (by omega) w0 h hh; rwa [List.drop_drop] at this
   refine jf [pz 0 [] [3], pz 1 [0] [], pz 3 [1] [], pz 7 [2] [], pz 0 [] [3], pz 0 [] [11], pz 32 [5] [], pz 112 [4, 6] [], pz 0 [] [13], pz 0 [] [12], pz 1023 [3, 7, 8, 9] [], pz 2047 [10] [], pz 4095 [11] [], pz 4095 [11] [], pz 8191 [12] [], pz 32767 [13] []] [⟨fun y => Rb, none, none, [1, 2, 10]⟩, ⟨fun y => Row U5 s.pa s.na s.ca s.A, none, none, [10]⟩, ⟨fun y => ai b5 26 [.int .i64 h.w, .int .i64 h.h, .slice q n c], none, none, []⟩, ⟨fun y => ai b6 145 [.int .i64 p.x, .int .i64 p.y, .int .i64 p.dx, .int .i64 p.dy, .int .i64 p.w, .int .i64 p.h], none, none, []⟩, ⟨fun y => ai bf 90 [.int .i64 h.w, .int .i64 h.h, .int .i64 h.dep, .int .i64 h.ar, .bool h.aZ, .slice pp pl.length cp, .slice pt tr.length ct, .slice pd nd cd, .slice pk (aa.aR h tr).length ck], none, none, []⟩, ⟨fun y => Row (aD 62 .u16) q n c s.P, none, none, []⟩, ⟨fun y => Rk, none, none, []⟩, ⟨fun y => R, none, none, []⟩, ⟨fun y => Row U5 (ir (y 10)).1 nr (ir (y 10)).2 (aa.eJ (Dt.getD s.a 0) ((Dt.drop (s.a + 1)).take nr) s.A back), some 10, none, []⟩] F V.mixed (by kernel_rfl) rfl (fun _ => .refl _) (aP _ (aP _ (aP _ (aP _ (aP _ (aP _ (aP _ (aP _ (cK _ rfl (by intro y y2 h; simp only [h 10 (.inl rfl)]) eV))))))))) ?_
   refine nM ?_
   refine nR (fun y FF hA => xI V.bK (by exact bG hz aA)) ?_
   refine nR (fun y FF hA => xL V.s5 (by exact bG hz aA)) ?_
   refine nV (fun y hA L => de (v := .int .i64 (Dt.getD s.a 0)) (cW V.u5 Tryz.underlying3 rfl (aa.BU hKB)) (congrArg (Value.int .i64) hKD)) ?_
   iterate 2 refine nM ?_
   refine (M1)<|(OD) ?_
   iterate 2 refine nM ?_
   refine (VZ) ?_
   refine (Wl) ?_
   refine (NC) ?_
   refine nV (fun y hA L => dQ rfl rfl) ?_
   refine (VX) ?_
   refine nA ?_
   refine (Qb) ?_
   intro y hA
   clear hA
   refine bg ?_
   refine bD [(0, .pointer (some ⟨bf, 0, none⟩)), (3, .slice s.pz (Dt.length - s.a) s.cz), (5, .pointer (some ⟨b5, 0, none⟩)), (6, .pointer (some ⟨b6, 0, none⟩)), (11, .int .i64 (nr : Int)), (12, .int .i64 (back : Int)), (14, .int .i64 (yv : Int)), (15, .slice (ir (y 10)).1 nr (ir (y 10)).2), (16, .bool true), (37, .int .i64 p.h), (38, .int .i64 (yv : Int))] (.cons (d := 0) rfl (.cons (d := 3) rfl (.cons (d := 5) rfl (.cons (d := 6) rfl (.cons (d := 11) rfl (.cons (d := 12) rfl (.cons (d := 14) rfl (.cons (d := 15) rfl (.cons (d := 16) rfl (.cons (d := 37) rfl (.cons (d := 38) rfl (.nil _)))))))))))) ?_
   refine bb (M := Rb :: Row U5 s.pa s.na s.ca s.A :: ai b5 26 [.int .i64 h.w, .int .i64 h.h, .slice q n c] :: ai b6 145 [.int .i64 p.x, .int .i64 p.y, .int .i64 p.dx, .int .i64 p.dy, .int .i64 p.w, .int .i64 p.h] :: ai bf 90 [.int .i64 h.w, .int .i64 h.h, .int .i64 h.dep, .int .i64 h.ar, .bool h.aZ, .slice pp pl.length cp, .slice pt tr.length ct, .slice pd nd cd, .slice pk (aa.aR h tr).length ck] :: Row (aD 62 .u16) q n c s.P :: Rk :: R :: Row U5 (ir (y 10)).1 nr (ir (y 10)).2 (aa.eJ (Dt.getD s.a 0) ((Dt.drop (s.a + 1)).take nr) s.A back) :: F) (fun _ _ h => h) ?_
   refine bb (sub .nil (.keep (.skip (.keep (.keep (.keep (.keep (.keep (.keep (.keep .refl)))))))))) ?_
   simp only [List.nil_append]
   generalize (ir (y 10)).1 = q15
   generalize (ir (y 10)).2 = c15
   refine (Qp)<|(Q0)<|(qm)<|(V6)<|(Qk) ?_
   refine aj (SD h bf pp pl cp pt tr ct pd nd cd pk ck R hP hT hcp hB hBt hpl htl Rk hRk hf hs q n c hn hcap s.P hPl p hp yv hyh q15 c15 (aa.eJ (Dt.getD s.a 0) ((Dt.drop (s.a + 1)).take nr) s.A back) (by rw [hUl]; omega) (aa.ux ..) (Row U5 q15 nr c15 (aa.eJ (Dt.getD s.a 0) ((Dt.drop (s.a + 1)).take nr) s.A back)) (fun _ _ hh => by rw [hUl]; exact hh.rd) (by rw [hUl]; exact aa.wX (by omega) (by omega) hnr) nr hUl hr) V.MY  rfl (.cons dw (.cons dw (.cons dw (.cons iG (.cons dw .nil))))) rfl ?_
   rintro _ _ ⟨rfl, P2, hP2, rfl⟩
   refine rO TT 18 rfl ?_
   (exact ag (G := [ai bf 90 [.int .i64 h.w, .int .i64 h.h, .int .i64 h.dep, .int .i64 h.ar, .bool h.aZ, .slice pp pl.length cp, .slice pt tr.length ct, .slice pd nd cd, .slice pk (aa.aR h tr).length ck], Row (aD 62 .u16) q n c P2, Rk, Rb, R]) (eC rfl rfl) (.inl ⟨aa.Lq hyh hk4 hr hres, rfl, P2, hP2, rfl⟩) (sub (fQ (.cons bj (.cons ay .nil))) my))
  ·refine (Q9) ?_
   have hyh : (yv : Int) < p.h := by omega
   have hya : (yv + 1) * (1 + nr) ≤ p.h.toNat * (1 + nr) := Nat.mul_le_mul_right _ (by omega)
   rw [Nat.add_mul, Nat.one_mul] at hya
   have hKD : U5.g (Dt.drop s.a) 0 = (Dt.getD s.a 0) := aa.fF Dt s.a 0
   have hKB : 0 ≤ U5.g (Dt.drop s.a) 0 ∧ U5.g (Dt.drop s.a) 0 < 256 := hKD ▸ hDB.get _
   have hdl : (Dt.drop s.a).length = Dt.length - s.a := List.length_drop
   have hL1l : ((Dt.drop (s.a + 1)).take nr).length = nr := by rw [List.length_take, List.length_drop]; omega
   have hUl : (aa.eJ (Dt.getD s.a 0) ((Dt.drop (s.a + 1)).take nr) s.A back).length = nr := (aa.uq ..).trans hL1l
   have hS1 : ∀ w0 h, Rb w0 h → aE U5 (dm s.pz 1 s.cz 1) nr ((Dt.drop (s.a + 1)).take nr) w0 h := fun w0 h hh => by have := kV (cap := 0) (fT (c := U5) hz hdl 1 s.cz (by omega) hcz) nr (by omega) w0 h hh; rwa [List.drop_drop] at this
   refine jf [pz 0 [] [3], pz 1 [0] [], pz 3 [1] [], pz 7 [2] [], pz 0 [] [3], pz 0 [] [11], pz 32 [5] [], pz 112 [4, 6] [], pz 0 [] [13], pz 0 [] [12], pz 1023 [3, 7, 8, 9] [], pz 2047 [10] [], pz 4095 [11] [], pz 4095 [11] [], pz 8191 [12] [], pz 32767 [13] []] [⟨fun y => Rb, none, none, [1, 2, 10]⟩, ⟨fun y => Row U5 s.pa s.na s.ca s.A, none, none, [10]⟩, ⟨fun y => ai b5 26 [.int .i64 h.w, .int .i64 h.h, .slice q n c], none, none, []⟩, ⟨fun y => ai b6 145 [.int .i64 p.x, .int .i64 p.y, .int .i64 p.dx, .int .i64 p.dy, .int .i64 p.w, .int .i64 p.h], none, none, []⟩, ⟨fun y => ai bf 90 [.int .i64 h.w, .int .i64 h.h, .int .i64 h.dep, .int .i64 h.ar, .bool h.aZ, .slice pp pl.length cp, .slice pt tr.length ct, .slice pd nd cd, .slice pk (aa.aR h tr).length ck], none, none, []⟩, ⟨fun y => Row (aD 62 .u16) q n c s.P, none, none, []⟩, ⟨fun y => Rk, none, none, []⟩, ⟨fun y => R, none, none, []⟩, ⟨fun y => Row U5 (ir (y 10)).1 nr (ir (y 10)).2 (aa.eJ (Dt.getD s.a 0) ((Dt.drop (s.a + 1)).take nr) s.A back), some 10, none, []⟩] F V.mixed (by kernel_rfl) rfl (fun _ => .refl _) (aP _ (aP _ (aP _ (aP _ (aP _ (aP _ (aP _ (aP _ (cK _ rfl (by intro y y2 h; simp only [h 10 (.inl rfl)]) eV))))))))) ?_
   refine nM ?_
   refine nR (fun y FF hA => xI V.bK (by exact bG hz aA)) ?_
   refine nR (fun y FF hA => xL V.s5 (by exact bG hz aA)) ?_
   refine nV (fun y hA L => de (v := .int .i64 (Dt.getD s.a 0)) (cW V.u5 Tryz.underlying3 rfl (aa.BU hKB)) (congrArg (Value.int .i64) hKD)) ?_
   iterate 2 refine nM ?_
   refine (M1)<|(OD) ?_
   iterate 2 refine nM ?_
   refine (VZ) ?_
   refine (Wl) ?_
   refine (NC) ?_
   refine nV (fun y hA L => dQ rfl rfl) ?_
   refine (VX) ?_
   refine nA ?_
   refine (Qb) ?_
   intro y hA
   clear hA
   refine bg ?_
   refine bD [(0, .pointer (some ⟨bf, 0, none⟩)), (3, .slice s.pz (Dt.length - s.a) s.cz), (5, .pointer (some ⟨b5, 0, none⟩)), (6, .pointer (some ⟨b6, 0, none⟩)), (11, .int .i64 (nr : Int)), (12, .int .i64 (back : Int)), (14, .int .i64 (yv : Int)), (15, .slice (ir (y 10)).1 nr (ir (y 10)).2), (16, .bool true), (37, .int .i64 p.h), (38, .int .i64 (yv : Int))] (.cons (d := 0) rfl (.cons (d := 3) rfl (.cons (d := 5) rfl (.cons (d := 6) rfl (.cons (d := 11) rfl (.cons (d := 12) rfl (.cons (d := 14) rfl (.cons (d := 15) rfl (.cons (d := 16) rfl (.cons (d := 37) rfl (.cons (d := 38) rfl (.nil _)))))))))))) ?_
   refine bb (M := Rb :: Row U5 s.pa s.na s.ca s.A :: ai b5 26 [.int .i64 h.w, .int .i64 h.h, .slice q n c] :: ai b6 145 [.int .i64 p.x, .int .i64 p.y, .int .i64 p.dx, .int .i64 p.dy, .int .i64 p.w, .int .i64 p.h] :: ai bf 90 [.int .i64 h.w, .int .i64 h.h, .int .i64 h.dep, .int .i64 h.ar, .bool h.aZ, .slice pp pl.length cp, .slice pt tr.length ct, .slice pd nd cd, .slice pk (aa.aR h tr).length ck] :: Row (aD 62 .u16) q n c s.P :: Rk :: R :: Row U5 (ir (y 10)).1 nr (ir (y 10)).2 (aa.eJ (Dt.getD s.a 0) ((Dt.drop (s.a + 1)).take nr) s.A back) :: F) (fun _ _ h => h) ?_
   refine bb (sub .nil (.keep (.skip (.keep (.keep (.keep (.keep (.keep (.keep (.keep .refl)))))))))) ?_
   simp only [List.nil_append]
   generalize (ir (y 10)).1 = q15
   generalize (ir (y 10)).2 = c15
   refine (Qp)<|(Q0)<|(qm)<|(V6)<|(Qk) ?_
   refine aj (NH h bf pp pl cp pt tr ct pd nd cd pk ck R hP hT hcp hB hBt hpl htl Rk hRk hf hs q n c hn hcap s.P hPl p hp yv hyh q15 c15 (aa.eJ (Dt.getD s.a 0) ((Dt.drop (s.a + 1)).take nr) s.A back) (by rw [hUl]; omega) (aa.ux ..) (Row U5 q15 nr c15 (aa.eJ (Dt.getD s.a 0) ((Dt.drop (s.a + 1)).take nr) s.A back)) (fun _ _ hh => by rw [hUl]; exact hh.rd) (by rw [hUl]; exact aa.wX (by omega) (by omega) hnr) nr hUl P2 hr) V.MY  rfl (.cons dw (.cons dw (.cons dw (.cons iG (.cons dw .nil))))) rfl ?_
   rintro _ _ ⟨hP2, rfl, rfl⟩
   refine (Qc)<|(rJ) ?_
   refine rR TT 3 rfl<|oR (de (v := .int .i64 ((nr + 1 : Nat) : Int)) (eb (r := 1 + (nr : Int)) rfl rfl wI) (congrArg (Value.int .i64) (by omega)))<|oR (dY (nr + 1) (Dt.length - s.a) s.cz V.bK rfl ⟨_, rfl⟩ ⟨rfl, rfl⟩ rfl (by omega) (by omega) (by omega))<|rR TT 2 rfl<|Rg.df<|OW TT 6 rfl (by omega) ?_
   rw [show Dt.length - s.a - (nr + 1) = Dt.length - (s.a + 1 + nr) from by omega]
   exact j2 (yv + 1) ⟨s.a + 1 + nr, dm s.pz (nr + 1) s.cz 1, s.cz - (nr + 1), q15, nr, c15, (aa.eJ (Dt.getD s.a 0) ((Dt.drop (s.a + 1)).take nr) s.A back), P2⟩ ⟨⟨by omega, by show s.a + 1 + nr = _; rw [Nat.add_mul, Nat.one_mul]; omega, hP2, hUl, .inr rfl, aa.ux .., (fun w0 h hh => by have := fT (c := U5) hz hdl (nr + 1) s.cz (by omega) hcz w0 h hh; rw [List.drop_drop] at this; rwa [show Dt.length - s.a - (nr + 1) = Dt.length - (s.a + 1 + nr) by omega, show s.a + (nr + 1) = s.a + 1 + nr by omega] at this), by show Dt.length - (s.a + 1 + nr) ≤ s.cz - (nr + 1); omega, aa.L4 hyh hk4 hr hres⟩, by omega⟩ (eQ (bN ln)) (sub (.cons jJ (.cons dw (.cons iG (.cons iG (mH .nil))))) ao)
 ·refine rC TT 13 rfl ?_
  have hyE : yv = p.h.toNat := by omega
  exact ag (eC rfl rfl) (.inr ⟨s.a, s.P, s.pz, s.cz, aa.J0 (by omega) hres, hPl, by rw [ha, hyE], hz, hcz, rfl, rfl⟩) (sub (.cons iG (.cons iG (.cons iG (aq (.cons dw .nil))))) my)
end Go.Proofs.YtmaiakpjgomnpaaGreat
namespace Go.Proofs.YtmaiakpjgomnpaaGreat
open Go.Sl
theorem V.Ol : aB Tryz.prog 17 = true := by kernel_rfl
theorem V.WK : aB Tryz.prog 37 = true := by kernel_rfl
theorem V.YW : aB Tryz.prog 38 = true := by kernel_rfl
theorem V.ZB : aB Tryz.prog 39 = true := by kernel_rfl
theorem V.JB : aB Tryz.prog 40 = true := by kernel_rfl
theorem V.WO : aB Tryz.prog 41 = true := by kernel_rfl
theorem V.Ze : aB Tryz.prog 42 = true := by kernel_rfl
theorem V.Y3 : aB Tryz.prog 81 = true := by kernel_rfl
theorem V.YL : aB Tryz.prog 82 = true := by kernel_rfl
theorem V.Zn : aB Tryz.prog 83 = true := by kernel_rfl
theorem V.YJ : aB Tryz.prog 84 = true := by kernel_rfl
theorem V.YF : aB Tryz.prog 85 = true := by kernel_rfl
theorem V.V7 : aB Tryz.prog 86 = true := by kernel_rfl
end Go.Proofs.YtmaiakpjgomnpaaGreat
namespace Go.Proofs.YtmaiakpjgomnpaaGreat
open Go.Sl 
attribute [local irreducible] af.ak aa.aW aa.bM aa.deep aa.parts HW aa.aR aa.fu aa.dS aa.eg aa.kW aa.kb aa.eJ aa.dv aa.eu aa.lk aa.want aa.aO aa.kR aa.m8 aa.m0 aa.iX aH.lZ aa.ba aa.aN aa.aS aa.aY aa.bQ aa.eF aa.iB aa.iI aa.bW aa.cD aa.cut aa.dq aa.oG
theorem Md (h : aa.Hd) (bf : Nat) (pp : Option Addr) (pl : List Int) (cp : Nat) (pt : Option Addr) (tr : List Int) (ct : Nat) (pd : Option Addr) (nd cd : Nat) (pk : Option Addr) (ck : Nat) (R : ab) (hP : ∀ w0 h, R w0 h → aE U5 pp pl.length pl w0 h) (hT : ∀ w0 h, R w0 h → aE U5 pt tr.length tr w0 h) (hcp : pl.length ≤ cp) (hB : af.ak pl) (hBt : af.ak tr) (hpl : pl.length < 500000000) (htl : tr.length < 500000000) (Rk : ab) (hRk : ∀ w0 h_, Rk w0 h_ → aE (aD 3 .i64) pk (aa.aR h tr).length (aa.aR h tr) w0 h_) (hf : aa.fu ⟨h, pl, tr⟩) (hs : aa.aW h.w h.h = 0) (q : Option Addr) (n c : Nat) (hn : (n : Int) = 4 * h.w * h.h) (hcap : n ≤ c) (pix : List Int) (hpx0 : pix.length = n) (p : aa.Ps) (hp : aa.kb p h.w h.h) (Dt : List Int) (hDB : af.ak Dt) (hDl : Dt.length < 500000000) (nr : Nat) (hnr : (nr : Int) = aa.dv p.w (aa.parts h.ar * h.dep)) (back : Nat) (hback : (back : Int) = max 1 ((aa.parts h.ar * h.dep) / 8)) (at0 : Nat) (hat : at0 + p.h.toNat * (1 + nr) ≤ Dt.length) (pb : Option Addr) (cb : Nat) (Rb : ab) (hRb : ∀ w0 h, Rb w0 h → aE U5 pb (Dt.length - at0) (Dt.drop at0) w0 h) (hcb : Dt.length - at0 ≤ cb) (hr : aa.eg ⟨h, pl, tr⟩ Dt nr back p p.h.toNat 0 at0 [] pix = none) : aC Tryz.prog 86 [.pointer (some ⟨bf, 0, none⟩), .agg #[.int .i64 h.w, .int .i64 h.h, .slice q n c], .agg #[.int .i64 p.x, .int .i64 p.y, .int .i64 p.dx, .int .i64 p.dy, .int .i64 p.w, .int .i64 p.h], .slice pb (Dt.length - at0) cb] [ai bf 90 [.int .i64 h.w, .int .i64 h.h, .int .i64 h.dep, .int .i64 h.ar, .bool h.aZ, .slice pp pl.length cp, .slice pt tr.length ct, .slice pd nd cd, .slice pk (aa.aR h tr).length ck], Row (aD 62 .u16) q n c pix, Rk, Rb, R] (aG fun v G => v = .tuple #[.slice none 0 0, .bool false] ∧ ∃ P, P.length = n ∧ G = [ai bf 90 [.int .i64 h.w, .int .i64 h.h, .int .i64 h.dep, .int .i64 h.ar, .bool h.aZ, .slice pp pl.length cp, .slice pt tr.length ct, .slice pd nd cd, .slice pk (aa.aR h tr).length ck], Row (aD 62 .u16) q n c P, Rk, Rb, R]) := by
 refine (xl h bf pp pl cp pt tr ct pd nd cd pk ck R hP hT hcp hB hBt hpl htl Rk hRk hf hs q n c hn hcap pix hpx0 p hp Dt hDB hDl nr hnr back hback at0 hat pb cb Rb hRb hcb).mono ?_
 rintro e2 G ⟨v, rfl, (⟨_, rfl, P, h1, rfl⟩ | ⟨a, P, z, cz, h, _⟩)⟩
 ·exact ⟨_, rfl, rfl, P, h1, rfl⟩
 ·rw [hr] at h; cases h
theorem Kq (h : aa.Hd) (bf : Nat) (pp : Option Addr) (pl : List Int) (cp : Nat) (pt : Option Addr) (tr : List Int) (ct : Nat) (pd : Option Addr) (nd cd : Nat) (pk : Option Addr) (ck : Nat) (R : ab) (hP : ∀ w0 h, R w0 h → aE U5 pp pl.length pl w0 h) (hT : ∀ w0 h, R w0 h → aE U5 pt tr.length tr w0 h) (hcp : pl.length ≤ cp) (hB : af.ak pl) (hBt : af.ak tr) (hpl : pl.length < 500000000) (htl : tr.length < 500000000) (Rk : ab) (hRk : ∀ w0 h_, Rk w0 h_ → aE (aD 3 .i64) pk (aa.aR h tr).length (aa.aR h tr) w0 h_) (hf : aa.fu ⟨h, pl, tr⟩) (hs : aa.aW h.w h.h = 0) (q : Option Addr) (n c : Nat) (hn : (n : Int) = 4 * h.w * h.h) (hcap : n ≤ c) (pix : List Int) (hpx0 : pix.length = n) (p : aa.Ps) (hp : aa.kb p h.w h.h) (Dt : List Int) (hDB : af.ak Dt) (hDl : Dt.length < 500000000) (nr : Nat) (hnr : (nr : Int) = aa.dv p.w (aa.parts h.ar * h.dep)) (back : Nat) (hback : (back : Int) = max 1 ((aa.parts h.ar * h.dep) / 8)) (at0 : Nat) (hat : at0 + p.h.toNat * (1 + nr) ≤ Dt.length) (pb : Option Addr) (cb : Nat) (Rb : ab) (hRb : ∀ w0 h, Rb w0 h → aE U5 pb (Dt.length - at0) (Dt.drop at0) w0 h) (hcb : Dt.length - at0 ≤ cb) (a2 : Nat) (P2 : List Int) (hr : aa.eg ⟨h, pl, tr⟩ Dt nr back p p.h.toNat 0 at0 [] pix = some (a2, P2)) : aC Tryz.prog 86 [.pointer (some ⟨bf, 0, none⟩), .agg #[.int .i64 h.w, .int .i64 h.h, .slice q n c], .agg #[.int .i64 p.x, .int .i64 p.y, .int .i64 p.dx, .int .i64 p.dy, .int .i64 p.w, .int .i64 p.h], .slice pb (Dt.length - at0) cb] [ai bf 90 [.int .i64 h.w, .int .i64 h.h, .int .i64 h.dep, .int .i64 h.ar, .bool h.aZ, .slice pp pl.length cp, .slice pt tr.length ct, .slice pd nd cd, .slice pk (aa.aR h tr).length ck], Row (aD 62 .u16) q n c pix, Rk, Rb, R] (aG fun v G => ∃ pz cz, P2.length = n ∧ a2 = at0 + p.h.toNat * (1 + nr) ∧ (∀ w0 h, Rb w0 h → aE U5 pz (Dt.length - a2) (Dt.drop a2) w0 h) ∧ Dt.length - a2 ≤ cz ∧ v = .tuple #[.slice pz (Dt.length - a2) cz, .bool true] ∧ G = [ai bf 90 [.int .i64 h.w, .int .i64 h.h, .int .i64 h.dep, .int .i64 h.ar, .bool h.aZ, .slice pp pl.length cp, .slice pt tr.length ct, .slice pd nd cd, .slice pk (aa.aR h tr).length ck], Row (aD 62 .u16) q n c P2, Rk, Rb, R]) := by
 refine (xl h bf pp pl cp pt tr ct pd nd cd pk ck R hP hT hcp hB hBt hpl htl Rk hRk hf hs q n c hn hcap pix hpx0 p hp Dt hDB hDl nr hnr back hback at0 hat pb cb Rb hRb hcb).mono ?_
 rintro e2 G ⟨v, rfl, (⟨h, _⟩ | ⟨a, P, z, cz, h, h1, h2, h3, h4, rfl, rfl⟩)⟩
 ·rw [hr] at h; cases h
 ·rw [hr] at h; cases h; exact ⟨_, rfl, z, cz, h1, h2, h3, h4, rfl, rfl⟩
theorem Sv (w h : Int) (hs : aa.aW w h = 0) : aC Tryz.prog 85 [.int .i64 w, .int .i64 h] [] (aG fun v G => ∃ b : Nat, v = .tuple #[.agg #[.int .i64 w, .int .i64 h, .slice (some ⟨b, 0, none⟩) ((4 * w * h).toNat) ((4 * w * h).toNat)], .int .i64 0] ∧ G = [Row (aD 62 .u16) (some ⟨b, 0, none⟩) ((4 * w * h).toNat) ((4 * w * h).toNat) (List.replicate ((4 * w * h).toNat) 0)]) := by
 refine (SV w h).mono ?_
 rintro e2 G ⟨v, rfl, (⟨h1, _⟩ | ⟨_, b, rfl, rfl⟩)⟩
 ·exact absurd hs h1
 ·exact ⟨_, rfl, b, rfl, rfl⟩
set_option maxHeartbeats 8000000 in
theorem Rm (h : aa.Hd) (bf : Nat) (pp : Option Addr) (pl : List Int) (cp : Nat) (pt : Option Addr) (tr : List Int) (ct : Nat) (pd : Option Addr) (cd : Nat) (pk : Option Addr) (ck : Nat) (R : ab) (hP : ∀ w0 h, R w0 h → aE U5 pp pl.length pl w0 h) (hT : ∀ w0 h, R w0 h → aE U5 pt tr.length tr w0 h) (hcp : pl.length ≤ cp) (hB : af.ak pl) (hBt : af.ak tr) (hpl : pl.length < 500000000) (htl : tr.length < 500000000) (Rk : ab) (hRk : ∀ w0 h_, Rk w0 h_ → aE (aD 3 .i64) pk (aa.aR h tr).length (aa.aR h tr) w0 h_) (hf : aa.fu ⟨h, pl, tr⟩) (hs : aa.aW h.w h.h = 0) (Z : List Int) (hZB : af.ak Z) (hZl : Z.length < 500000000) (hcd : Z.length ≤ cd) (Rd : ab) (hRd : ∀ w0 h, Rd w0 h → aE U5 pd Z.length Z w0 h) (z : List Int × Int) (hz : aH.lZ Z (aa.want h) z) : aC Tryz.prog 42 [.pointer (some ⟨bf, 0, none⟩)] [ai bf 90 [.int .i64 h.w, .int .i64 h.h, .int .i64 h.dep, .int .i64 h.ar, .bool h.aZ, .slice pp pl.length cp, .slice pt tr.length ct, .slice pd Z.length cd, .slice pk (aa.aR h tr).length ck], Rk, Rd, R] (aG fun v G => ∃ q n c, v = .tuple #[.agg #[.int .i64 (aa.lk ⟨h, pl, tr⟩ z).1.w, .int .i64 (aa.lk ⟨h, pl, tr⟩ z).1.h, .slice q n c], .int .i64 (aa.lk ⟨h, pl, tr⟩ z).2] ∧ (aa.lk ⟨h, pl, tr⟩ z).1.pix.length = n ∧ n ≤ c ∧ G = [Row (aD 62 .u16) q n c (aa.lk ⟨h, pl, tr⟩ z).1.pix]) := by
 refine au [(0, _)] Tryz.func42 rfl Tryz.ntmps42 rfl rfl ?_
 intro w0 F
 have hde : aa.deep h.ar h.dep := by unfold aa.fu at hf; exact hf.1
 have hpc := aa.gi hde
 have hdi := aa.iU (aa.gp hde)
 have hbits := aa.lh hde
 have hsd := aa.jj hs
 have hs4 := aa.pj hs
 have hps := aa.jQ hs
 have hwi := aa.LH hs hde
 have hzbl := aa.Pt hZB hwi.2 hz
 have hzB := hzbl.1
 have hzl := hzbl.2
 have hwn := aa.Et hs hde
 refine (Qr)<|(tA) ?_
 intro b2
 refine rO TT 4 rfl ?_
 refine jf [pz 0 [] [0], pz 1 [0] [], pz 3 [1] [], pz 7 [2] [], pz 15 [3] [], pz 0 [] [0], pz 32 [5] [], pz 96 [6] [], pz 224 [7] [], pz 480 [8] [], pz 1023 [4, 9] [], pz 2047 [10] []] [⟨fun y => ai b2 26 [.int .i64 0, .int .i64 0, .slice none 0 0], none, none, []⟩, ⟨fun y => ai bf 90 [.int .i64 h.w, .int .i64 h.h, .int .i64 h.dep, .int .i64 h.ar, .bool h.aZ, .slice pp pl.length cp, .slice pt tr.length ct, .slice pd Z.length cd, .slice pk (aa.aR h tr).length ck], none, none, [4, 9]⟩, ⟨fun y => Rk, none, none, []⟩, ⟨fun y => Rd, none, none, []⟩, ⟨fun y => R, none, none, []⟩, ⟨fun y => Row PK (ea (y 10)) (aa.whole h.w h.h).length (fC (y 10)) (aa.whole h.w h.h), some 10, none, []⟩] F V.mixed (by kernel_rfl) rfl (fun _ => .refl _) (aP _ (aP _ (aP _ (aP _ (aP _ (cK _ rfl (by intro y y2 h; simp only [h 10 (.inl rfl)]) eV)))))) ?_
 refine nM ?_
 refine nN ?_
 refine nG V.gD ?_
 refine nG V.Cq ?_
 refine nR (fun y FF hA => az V.s3 rfl aA rfl) ?_
 refine nM ?_
 refine nN ?_
 refine nG V.gD ?_
 refine nG V.sX ?_
 refine nR (fun y FF hA => az V.s3 rfl aA rfl) ?_
 refine eK (fun y v => .slice (ea v) (aa.whole h.w h.h).length (fC v)) (fun y v => True) _ _ (fun y v => [Row PK (ea v) (aa.whole h.w h.h).length (fC v) (aa.whole h.w h.h)]) _ (fun y => rfl) (fun y => rfl) (fun y => rfl) (fun y => rfl) (fun y FF hA => vG (LK h.w h.h hs) V.Y3 rfl .nil) (by intros; rfl) (by intros; rfl) (by intros; rfl) (by intro y y2 h; simp only [h 10 (.inl rfl)]) (by intro y y2 h; rfl) ?_
 refine ei _ (fun y => rfl) rfl rfl rfl (fun y hA L => dE (iO rfl) ⟨rfl, rfl⟩) (by intros; rfl) (by intro y y2 h; simp only [h 10 (.inr (by decide))]) ?_
 refine cN ?_
 intro y hA
 clear hA
 refine bg<|bD [(0, .pointer (some ⟨bf, 0, none⟩)), (2, .pointer (some ⟨b2, 0, none⟩)), (4, .slice (ea (y 10)) (aa.whole h.w h.h).length (fC (y 10)))] (.cons (d := 0) rfl (.cons (d := 2) rfl (.cons (d := 4) rfl (.nil _))))<|bb (M := ai b2 26 [.int .i64 0, .int .i64 0, .slice none 0 0] :: ai bf 90 [.int .i64 h.w, .int .i64 h.h, .int .i64 h.dep, .int .i64 h.ar, .bool h.aZ, .slice pp pl.length cp, .slice pt tr.length ct, .slice pd Z.length cd, .slice pk (aa.aR h tr).length ck] :: Rk :: Rd :: R :: Row PK (ea (y 10)) (aa.whole h.w h.h).length (fC (y 10)) (aa.whole h.w h.h) :: F) (fun _ _ h => h) ?_
 generalize (ea (y 10)) = pw
 generalize (fC (y 10)) = cw
 refine Bp (fun (pa : Option Addr) (ca : Nat) => [(0, .pointer (some ⟨bf, 0, none⟩)), (2, .pointer (some ⟨b2, 0, none⟩)), (4, .slice pa (aa.aO h).length ca)]) (fun (pa : Option Addr) (ca : Nat) => Row PK pa (aa.aO h).length ca (aa.aO h) :: ai b2 26 [.int .i64 0, .int .i64 0, .slice none 0 0] :: ai bf 90 [.int .i64 h.w, .int .i64 h.h, .int .i64 h.dep, .int .i64 h.ar, .bool h.aZ, .slice pp pl.length cp, .slice pt tr.length ct, .slice pd Z.length cd, .slice pk (aa.aR h tr).length ck] :: Rk :: Rd :: R :: F) (fun (pa : Option Addr) (ca : Nat) => True) ?_ ?_
 ·rcases (aa.tf h.aZ) with hl1 | hl2
  ·refine rL TT 6 rfl ?_
   refine oV (de (v := .bool true) (az V.s4 rfl dM rfl) (congrArg Value.bool hl1)) ?_
   refine rO TT 3 rfl ?_
   refine jf [pz 0 [] [0], pz 1 [0] [], pz 3 [1] [], pz 7 [2] [], pz 15 [3] [], pz 0 [] [0], pz 32 [5] [], pz 96 [6] [], pz 224 [7] [], pz 480 [8] [], pz 1023 [4, 9] [], pz 2047 [10] []] [⟨fun y => ai b2 26 [.int .i64 0, .int .i64 0, .slice none 0 0], none, none, []⟩, ⟨fun y => ai bf 90 [.int .i64 h.w, .int .i64 h.h, .int .i64 h.dep, .int .i64 h.ar, .bool h.aZ, .slice pp pl.length cp, .slice pt tr.length ct, .slice pd Z.length cd, .slice pk (aa.aR h tr).length ck], none, none, [4, 9]⟩, ⟨fun y => Rk, none, none, []⟩, ⟨fun y => Rd, none, none, []⟩, ⟨fun y => R, none, none, []⟩, ⟨fun y => Row PK pw (aa.whole h.w h.h).length cw (aa.whole h.w h.h), none, none, []⟩, ⟨fun y => Row PK (ea (y 10)) (aa.eS h.w h.h).length (fC (y 10)) (aa.eS h.w h.h), some 10, none, []⟩] F V.mixed (by kernel_rfl) rfl (fun _ => .refl _) (aP _ (aP _ (aP _ (aP _ (aP _ (aP _ (cK _ rfl (by intro y y2 h; simp only [h 10 (.inl rfl)]) eV))))))) ?_
   refine nM ?_
   refine nN ?_
   refine nG V.gD ?_
   refine nG V.Cq ?_
   refine nR (fun y FF hA => az V.s3 rfl aA rfl) ?_
   refine nM ?_
   refine nN ?_
   refine nG V.gD ?_
   refine nG V.sX ?_
   refine nR (fun y FF hA => az V.s3 rfl aA rfl) ?_
   refine eK (fun y v => .slice (ea v) (aa.eS h.w h.h).length (fC v)) (fun y v => True) _ _ (fun y v => [Row PK (ea v) (aa.eS h.w h.h).length (fC v) (aa.eS h.w h.h)]) _ (fun y => rfl) (fun y => rfl) (fun y => rfl) (fun y => rfl) (fun y FF hA => vG (Gz h.w h.h hs) V.YL rfl .nil) (by intros; rfl) (by intros; rfl) (by intros; rfl) (by intro y y2 h; simp only [h 10 (.inl rfl)]) (by intro y y2 h; rfl) ?_
   refine ei _ (fun y => rfl) rfl rfl rfl (fun y hA L => dE (iO rfl) ⟨rfl, rfl⟩) (by intros; rfl) (by intro y y2 h; simp only [h 10 (.inr (by decide))]) ?_
   refine cN ?_
   intro y hA
   clear hA
   show ij _ _ _ _ (ai b2 26 [.int .i64 0, .int .i64 0, .slice none 0 0] :: ai bf 90 [.int .i64 h.w, .int .i64 h.h, .int .i64 h.dep, .int .i64 h.ar, .bool h.aZ, .slice pp pl.length cp, .slice pt tr.length ct, .slice pd Z.length cd, .slice pk (aa.aR h tr).length ck] :: Rk :: Rd :: R :: Row PK pw (aa.whole h.w h.h).length cw (aa.whole h.w h.h) :: Row PK (ea (y 10)) (aa.eS h.w h.h).length (fC (y 10)) (aa.eS h.w h.h) :: F)
   (rw [show (aa.eS h.w h.h) = (aa.aO h) from aa.BQ hl1]; exact j2 _ _ trivial (fz ln) (sub (.cons mF (kp .nil)) bC))
  ·refine (Qm) ?_
   refine oV (de (v := .bool false) (az V.s4 rfl dM rfl) (congrArg Value.bool hl2))<|(Q8) ?_
   (rw [show (aa.whole h.w h.h) = (aa.aO h) from aa.BT hl2]; exact j2 _ _ trivial (fz ln) (sub (.cons jJ (kp .nil)) ao))
 ·intro pa ca
  rintro -
  refine (Q9) ?_
  refine wN [pz 0 [] [4], pz 0 [] [0], pz 2 [1] [], pz 6 [2] [], pz 14 [3] [], pz 30 [4] [], pz 62 [5] [], pz 0 [] [0], pz 128 [7] [], pz 384 [8] [], pz 896 [9] [], pz 1920 [10] [], pz 4094 [6, 11] [], pz 8191 [0, 12] [], pz 16383 [13] []] [⟨fun y => Row PK pa (aa.aO h).length ca (aa.aO h), none, none, [13]⟩, ⟨fun y => ai b2 26 [.int .i64 0, .int .i64 0, .slice none 0 0], none, none, []⟩, ⟨fun y => ai bf 90 [.int .i64 h.w, .int .i64 h.h, .int .i64 h.dep, .int .i64 h.ar, .bool h.aZ, .slice pp pl.length cp, .slice pt tr.length ct, .slice pd Z.length cd, .slice pk (aa.aR h tr).length ck], none, none, [5, 11]⟩, ⟨fun y => Rk, none, none, []⟩, ⟨fun y => Rd, none, none, []⟩, ⟨fun y => R, none, none, []⟩] F V.mixed ?_
  iterate 2 refine nM ?_
  refine nN ?_
  refine nG V.gD ?_
  refine nG V.qN ?_
  refine nR (fun y FF hA => az V.s3 rfl aA rfl) ?_
  refine nE (fun y FF hA => aX (Post := []) (iu h.ar) V.kn rfl .nil (fun v G h => by rcases h with ⟨rfl, rfl⟩; exact ⟨rfl, .refl _⟩)) ?_
  refine nM ?_
  refine nN ?_
  refine nG V.gD ?_
  refine nG V.wz ?_
  refine nR (fun y FF hA => az V.s3 rfl aA rfl) ?_
  refine nV (fun y hA L => fP (r := (aa.parts h.ar * h.dep)) rfl rfl wI) ?_
  refine nE (fun y FF hA => aX (Post := [Row PK pa (aa.aO h).length ca (aa.aO h)]) (LP pa ca (aa.aO h) (aa.parts h.ar * h.dep) (Row PK pa (aa.aO h).length ca (aa.aO h)) (fun _ _ hh => hh.rd) hps.2 (fun p hp => (hps.1 p hp).2.1) ⟨by omega, by omega⟩) V.Zn rfl (aq .nil) (fun v G hh => by rcases hh with ⟨rfl, rfl⟩; exact ⟨congrArg (Value.int .i64) (aa.K8 h), .refl _⟩)) ?_
  refine nA ?_
  refine cN ?_
  intro y hA
  clear hA
  refine bg<|bD [(0, .pointer (some ⟨bf, 0, none⟩)), (2, .pointer (some ⟨b2, 0, none⟩)), (4, .slice pa (aa.aO h).length ca), (5, .int .i64 (aa.want h))] (.cons (d := 0) rfl (.cons (d := 2) rfl (.cons (d := 4) rfl (.cons (d := 5) rfl (.nil _)))))<|bb (M := Row PK pa (aa.aO h).length ca (aa.aO h) :: ai b2 26 [.int .i64 0, .int .i64 0, .slice none 0 0] :: ai bf 90 [.int .i64 h.w, .int .i64 h.h, .int .i64 h.dep, .int .i64 h.ar, .bool h.aZ, .slice pp pl.length cp, .slice pt tr.length ct, .slice pd Z.length cd, .slice pk (aa.aR h tr).length ck] :: Rk :: Rd :: R :: F) (fun _ _ h => h)<|(Qg) ?_
  refine oV (az V.jU rfl dL rfl)<|(Q6) ?_
  refine aj (PG pd cd Z Rd hRd hcd hZl hZB (aa.want h) hwi.2 z hz) V.YJ  rfl (.cons iG .nil) rfl ?_
  rintro _ _ ⟨qz, cqz, rfl, rfl⟩
  refine (Qn) ?_
  rcases (aa.X3 ⟨h, pl, tr⟩ z) with ⟨h1, hw_⟩ | ⟨h1, h2, hw_⟩ | ⟨h1, h2⟩
  ·refine (Q4) ?_
   refine oV (cJ (cE rfl rfl) h1)<|(Q1)<|(vR)<|(Q6)<|(NY)<|(Q1) ?_
   rw [hw_]
   exact ag (dO V.gn rfl ig rfl rfl) ⟨none, 0, 0, rfl, rfl, Nat.le_refl _, rfl⟩ ((cZ (A := Row (aD 62 .u16) none 0 0 []) (fun w0 => Row.nil _ _ _)).trans (sub (aq .nil) DL))
  ·refine (Q4) ?_
   refine oV (bR (cE rfl rfl) h1)<|(Qn) ?_
   refine oV (cJ (dW rfl rfl) h2)<|(Q1)<|(vR)<|(NY)<|(Q1) ?_
   rw [hw_]
   exact ag (dO V.gn rfl ig rfl rfl) ⟨none, 0, 0, rfl, rfl, Nat.le_refl _, rfl⟩ ((cZ (A := Row (aD 62 .u16) none 0 0 []) (fun w0 => Row.nil _ _ _)).trans (sub (aq .nil) DL))
  ·refine (Q4) ?_
   refine oV (bR (cE rfl rfl) h1)<|(Qn) ?_
   refine oV (bR (dW rfl rfl) h2)<|(Qj) ?_
   refine gU (fun w hi => eZ hi (show Row U5 qz z.1.length cqz z.1 ∈ _ by exact aA)) (fun hcz0 => ?_)
   refine jf [pz 0 [] [0], pz 1 [0] [], pz 3 [1] [], pz 7 [2] [], pz 15 [3] [], pz 0 [] [0], pz 32 [5] [], pz 96 [6] [], pz 224 [7] [], pz 480 [8] [], pz 1023 [4, 9] [], pz 2047 [10] [], pz 4095 [11] [], pz 4095 [11] [], pz 0 [] [], pz 24575 [14, 12] [], pz 65535 [13] []] [⟨fun y => Row U5 qz z.1.length cqz z.1, none, none, []⟩, ⟨fun y => Rd, none, none, []⟩, ⟨fun y => Row PK pa (aa.aO h).length ca (aa.aO h), none, none, []⟩, ⟨fun y => ai b2 26 [.int .i64 0, .int .i64 0, .slice none 0 0], none, none, []⟩, ⟨fun y => ai bf 90 [.int .i64 h.w, .int .i64 h.h, .int .i64 h.dep, .int .i64 h.ar, .bool h.aZ, .slice pp pl.length cp, .slice pt tr.length ct, .slice pd Z.length cd, .slice pk (aa.aR h tr).length ck], none, none, [4, 9]⟩, ⟨fun y => Rk, none, none, []⟩, ⟨fun y => R, none, none, []⟩, ⟨fun y => Row (aD 62 .u16) (some ⟨vm (y 10), 0, none⟩) ((4 * h.w * h.h).toNat) ((4 * h.w * h.h).toNat) (List.replicate ((4 * h.w * h.h).toNat) 0), some 10, none, []⟩, ⟨fun y => ai (ek (y 14)) 26 [.int .i64 0, .int .i64 0, .slice none 0 0], some 14, some 15, []⟩, ⟨fun y => ai (ek (y 14)) 26 [.int .i64 h.w, .int .i64 h.h, .slice (some ⟨vm (y 10), 0, none⟩) ((4 * h.w * h.h).toNat) ((4 * h.w * h.h).toNat)], some 15, none, []⟩] F V.mixed (by kernel_rfl) rfl (fun _ => .refl _) (aP _ (aP _ (aP _ (aP _ (aP _ (aP _ (aP _ (cK _ rfl (by intro y y2 h; simp only [h 10 (.inl rfl)]) (cK _ rfl (by intro y y2 h; simp only [h 14 (.inl rfl)]) (cK _ rfl (by intro y y2 h; simp only [h 10 (.inr (by decide)), h 14 (.inr (by decide))]) eV)))))))))) ?_
   refine nM ?_
   refine nN ?_
   refine nG V.gD ?_
   refine nG V.Cq ?_
   refine nR (fun y FF hA => az V.s3 rfl aA rfl) ?_
   refine nM ?_
   refine nN ?_
   refine nG V.gD ?_
   refine nG V.sX ?_
   refine nR (fun y FF hA => az V.s3 rfl aA rfl) ?_
   refine eK (fun y v => .tuple #[.agg #[.int .i64 h.w, .int .i64 h.h, .slice (some ⟨vm v, 0, none⟩) ((4 * h.w * h.h).toNat) ((4 * h.w * h.h).toNat)], .int .i64 0]) (fun y v => True) _ _ (fun y v => [Row (aD 62 .u16) (some ⟨vm v, 0, none⟩) ((4 * h.w * h.h).toNat) ((4 * h.w * h.h).toNat) (List.replicate ((4 * h.w * h.h).toNat) 0)]) _ (fun y => rfl) (fun y => rfl) (fun y => rfl) (fun y => rfl) (fun y FF hA => wZ (α := Nat) (fun b => .tuple #[.agg #[.int .i64 h.w, .int .i64 h.h, .slice (some ⟨b, 0, none⟩) ((4 * h.w * h.h).toNat) ((4 * h.w * h.h).toNat)], .int .i64 0]) vm (fun b => [Row (aD 62 .u16) (some ⟨b, 0, none⟩) ((4 * h.w * h.h).toNat) ((4 * h.w * h.h).toNat) (List.replicate ((4 * h.w * h.h).toNat) 0)]) (Sv h.w h.h hs) (fun a => rfl) V.YF rfl .nil) (by intros; rfl) (by intros; rfl) (by intros; rfl) (by intro y y2 h; simp only [h 10 (.inl rfl)]) (by intro y y2 h; rfl) ?_
   refine ei _ (fun y => rfl) rfl rfl rfl (fun y hA L => dE (jm rfl) ⟨rfl, rfl⟩) (by intros; rfl) (by intro y y2 h; simp only [h 10 (.inr (by decide))]) ?_
   refine ei _ (fun y => rfl) rfl rfl rfl (fun y hA L => dE (dQ rfl rfl) ⟨rfl, rfl⟩) (by intros; rfl) (by intro y y2 h; simp only [h 10 (.inr (by decide))]) ?_
   refine nV (fun y hA L => dQ rfl rfl) ?_
   refine eK (fun y v => .pointer (some ⟨ek v, 0, none⟩)) (fun y v => True) _ _ (fun y v => [ai (ek v) 26 [.int .i64 0, .int .i64 0, .slice none 0 0]]) _ (fun y => rfl) (fun y => rfl) (fun y => rfl) (fun y => rfl) (fun y FF hA => pO (qG V.vV)) (by intros; rfl) (by intros; rfl) (by intros; rfl) (by intro y y2 h; simp only [h 14 (.inl rfl)]) (by intro y y2 h; rfl) ?_
   refine nE (fun y FF hA => dE (bd V.gn rfl rfl (us := [_, _, _]) rfl rfl (by exact fW) (by exact Nat.le_of_ble_eq_true rfl) rfl) ⟨rfl, .refl _⟩) ?_
   refine nA ?_
   refine cN ?_
   intro y hA
   clear hA
   refine bg<|bD [(0, .pointer (some ⟨bf, 0, none⟩)), (2, .pointer (some ⟨b2, 0, none⟩)), (4, .slice pa (aa.aO h).length ca), (6, .slice qz z.1.length cqz), (8, .pointer (some ⟨(ek (y 14)), 0, none⟩))] (.cons (d := 0) rfl (.cons (d := 2) rfl (.cons (d := 4) rfl (.cons (d := 6) rfl (.cons (d := 8) rfl (.nil _))))))<|bb (M := Row U5 qz z.1.length cqz z.1 :: Rd :: Row PK pa (aa.aO h).length ca (aa.aO h) :: ai b2 26 [.int .i64 0, .int .i64 0, .slice none 0 0] :: ai bf 90 [.int .i64 h.w, .int .i64 h.h, .int .i64 h.dep, .int .i64 h.ar, .bool h.aZ, .slice pp pl.length cp, .slice pt tr.length ct, .slice pd Z.length cd, .slice pk (aa.aR h tr).length ck] :: Rk :: R :: Row (aD 62 .u16) (some ⟨vm (y 10), 0, none⟩) ((4 * h.w * h.h).toNat) ((4 * h.w * h.h).toNat) (List.replicate ((4 * h.w * h.h).toNat) 0) :: ai (ek (y 14)) 26 [.int .i64 h.w, .int .i64 h.h, .slice (some ⟨vm (y 10), 0, none⟩) ((4 * h.w * h.h).toNat) ((4 * h.w * h.h).toNat)] :: F) (fun _ _ h => h) ?_
   generalize (vm (y 10)) = bq
   generalize (ek (y 14)) = b8
   refine rC TT 14 rfl ?_
   rw [show List.replicate ((4 * h.w * h.h).toNat) 0 = aa.iZ h from by unfold aa.iZ; rfl]
   obtain ⟨RES, hRES⟩ : ∃ r, r = aa.eu ⟨h, pl, tr⟩ z.1 (aa.aO h) 0 (aa.iZ h) := ⟨_, rfl⟩
   have h2w : ¬ (z.1.length : Int) < aa.want h := h2
   refine Av (fun (i : Nat) (a : Nat) (pz : Option Addr) (cz : Nat) (P : List Int) => [(0, .pointer (some ⟨bf, 0, none⟩)), (2, .pointer (some ⟨b2, 0, none⟩)), (6, .slice pz (z.1.length - a) cz), (8, .pointer (some ⟨b8, 0, none⟩)), (88, .slice pa (aa.aO h).length ca), (89, .int .i64 ((aa.aO h).length : Int)), (90, .int .i64 (i : Int))]) (fun (i : Nat) (a : Nat) (pz : Option Addr) (cz : Nat) (P : List Int) => ai b8 26 [.int .i64 h.w, .int .i64 h.h, .slice (some ⟨bq, 0, none⟩) ((4 * h.w * h.h).toNat) ((4 * h.w * h.h).toNat)] :: Row (aD 62 .u16) (some ⟨bq, 0, none⟩) ((4 * h.w * h.h).toNat) ((4 * h.w * h.h).toNat) P :: Row PK pa (aa.aO h).length ca (aa.aO h) :: Row U5 qz z.1.length cqz z.1 :: ai b2 26 [.int .i64 0, .int .i64 0, .slice none 0 0] :: ai bf 90 [.int .i64 h.w, .int .i64 h.h, .int .i64 h.dep, .int .i64 h.ar, .bool h.aZ, .slice pp pl.length cp, .slice pt tr.length ct, .slice pd Z.length cd, .slice pk (aa.aR h tr).length ck] :: Rk :: Rd :: R :: F) (fun (i : Nat) (a : Nat) (pz : Option Addr) (cz : Nat) (P : List Int) => i ≤ (aa.aO h).length ∧ P.length = ((4 * h.w * h.h).toNat) ∧ a + aa.m0 (aa.bitsOf h) ((aa.aO h).drop i) ≤ z.1.length ∧ (∀ w0 h, (Row U5 qz z.1.length cqz z.1) w0 h → aE U5 pz (z.1.length - a) (z.1.drop a) w0 h) ∧ z.1.length - a ≤ cz ∧ aa.eu ⟨h, pl, tr⟩ z.1 ((aa.aO h).drop i) a P = RES) (fun (i : Nat) (a : Nat) (pz : Option Addr) (cz : Nat) (P : List Int) => (aa.aO h).length - i) (i5 (0) (0) (qz) (cqz) (aa.iZ h) ?_ (jg (bN ln)) (sub (.cons Wx (.cons yd (.cons bj (aq (.cons ay (.cons ay (.cons ay (.cons dg (.cons dg .nil))))))))) ao)) ?_
   ·exact ⟨Nat.zero_le _, List.length_replicate, by rw [List.drop_zero]; show 0 + _ ≤ _; omega, (fun _ _ hh => hh.rd), hcz0, hRES.symm⟩
   intro i a pz cz P
   rintro ⟨hi, hPl, hat, hzr, hzc, hres⟩
   refine (Qm) ?_
   refine aF rfl (fun h91 => ?_) (fun h91 => ?_)
   ·refine (Qg) ?_
    obtain ⟨x, hx⟩ : ∃ x, x = (PK.g (aa.aO h) (i : Int)) := ⟨_, rfl⟩
    have hx2 : x = (aa.aO h).getD i ⟨0, 0, 0, 0, 0, 0⟩ := hx
    have hxi := hps.1 x (hx2 ▸ aa.HF (by omega))
    have hne := aa.PQ (bits := aa.bitsOf h) (by omega) hx2
    refine (Qo) ?_
    refine oV (xI V.tN (own dL))<|oV (de (v := .agg #[.int .i64 x.x, .int .i64 x.y, .int .i64 x.dx, .int .i64 x.dy, .int .i64 x.w, .int .i64 x.h]) (nt (c := PK) V.a145 rfl (own dL) (by omega) (by omega) rfl) (by rw [hx]))<|c4 V.z145 rfl ?_
    intro b12
    refine (Sw)<|(Q7) ?_
    rcases (aa.Ye (aa.eg ⟨h, pl, tr⟩ z.1 (aa.kR h x) (aa.m8 h) x x.h.toNat 0 a [] P)) with hr | ⟨a2, P2, hr⟩
    ·refine (Q4)<|(qm)<|(R8)<|(Q6) ?_
     refine aj (Md h bf pp pl cp pt tr ct pd Z.length cd pk ck R hP hT hcp hB hBt hpl htl Rk hRk hf hs (some ⟨bq, 0, none⟩) ((4 * h.w * h.h).toNat) ((4 * h.w * h.h).toNat) (by omega) (Nat.le_refl _) P hPl x hxi.1 z.1 hzB hzl (aa.kR h x) (aa.Ak hxi.2.1 hde) (aa.m8 h) (aa.zM h) a (by rw [hne] at hat; unfold aa.kR; omega) pz cz (Row U5 qz z.1.length cqz z.1) hzr hzc hr) V.V7  rfl (.cons mF (.cons bj (.cons jJ (.cons dw (.cons jJ .nil))))) rfl ?_
     rintro _ _ ⟨rfl, P2, hP2, rfl⟩
     refine rO TT 16 rfl<|(vR) ?_
     refine cu (bd V.gn rfl rfl (us := [_, _, _]) rfl rfl (by exact Y7) (by exact Nat.le_of_ble_eq_true rfl) rfl)<|(Qn) ?_
     rw [aa.HZ (f := ⟨h, pl, tr⟩) h1 h2 (hRES.symm.trans (aa.OT (f := ⟨h, pl, tr⟩) (by omega) hx2 hr hres))]
     exact ag (dO V.gn rfl YX rfl rfl) ⟨none, 0, 0, rfl, rfl, Nat.le_refl _, rfl⟩ ((cZ (A := Row (aD 62 .u16) none 0 0 []) (fun w0 => Row.nil _ _ _)).trans (sub (aq .nil) NW))
    ·refine (Q4)<|(qm)<|(R8)<|(Q6) ?_
     refine aj (Kq h bf pp pl cp pt tr ct pd Z.length cd pk ck R hP hT hcp hB hBt hpl htl Rk hRk hf hs (some ⟨bq, 0, none⟩) ((4 * h.w * h.h).toNat) ((4 * h.w * h.h).toNat) (by omega) (Nat.le_refl _) P hPl x hxi.1 z.1 hzB hzl (aa.kR h x) (aa.Ak hxi.2.1 hde) (aa.m8 h) (aa.zM h) a (by rw [hne] at hat; unfold aa.kR; omega) pz cz (Row U5 qz z.1.length cqz z.1) hzr hzc a2 P2 hr) V.V7  rfl (.cons mF (.cons bj (.cons jJ (.cons dw (.cons jJ .nil))))) rfl ?_
     rintro _ _ ⟨pz2, cz2, hP2, ha2, hz2, hcz2, rfl, rfl⟩
     exact iP TT 21 rfl (by omega)<|j5 (i + 1) a2 pz2 cz2 P2 ⟨⟨by omega, hP2, by rw [ha2]; rw [hne] at hat; unfold aa.kR; omega, hz2, hcz2, aa.O7 (f := ⟨h, pl, tr⟩) (by omega) hx2 hr hres⟩, by omega⟩ (jg (bN ln)) (sub (.cons mF (.cons ay (.cons jJ (.cons bj (.cons iG (aT (.cons bj (.cons dg .nil)))))))) bC)
   ·refine (Qp)<|(xy)<|(RY)<|(Q8) ?_
    rw [aa.H5 (f := ⟨h, pl, tr⟩) h1 h2 (hRES.symm.trans (aa.OM (by omega) hres))]
    exact ag (dO V.gn rfl jB rfl rfl) ⟨_, _, _, rfl, hPl, Nat.le_refl _, rfl⟩ (sub (.cons ay .nil) Nh)
theorem Re (p : Option Addr) (c : Nat) (B : List Int) (R : ab) (hR : ∀ w0 h, R w0 h → aE U5 p B.length B w0 h) (hl : B.length < 500000000) (hB : af.ak B) (hcap : B.length ≤ c) (e : Int) (hc : aa.cut B = .error e) : aC Tryz.prog 37 [.slice p B.length c] [R] (aG fun v G => v = .tuple #[.slice none 0 0, .int .i64 e] ∧ G = [R]) := by
 refine (Ia p c B R hR hl hB hcap).mono ?_
 rintro e2 G ⟨v, rfl, (⟨e', h, rfl, rfl⟩ | ⟨q, cq, es, h, _⟩)⟩
 ·rw [hc] at h; cases h; exact ⟨_, rfl, rfl, rfl⟩
 ·rw [hc] at h; cases h
theorem OX (p : Option Addr) (c : Nat) (B : List Int) (R : ab) (hR : ∀ w0 h, R w0 h → aE U5 p B.length B w0 h) (hl : B.length < 500000000) (hB : af.ak B) (hcap : B.length ≤ c) (l : List aa.Ch) (hc : aa.cut B = .ok l) : aC Tryz.prog 37 [.slice p B.length c] [R] (aG fun v G => ∃ q cq, ∃ es : List Ce, l = es.map Ce.ch ∧ es.length ≤ 262144 ∧ (∀ y ∈ es, A5 y) ∧ v = .tuple #[.slice q es.length cq, .int .i64 0] ∧ G = [Row CK q es.length cq es, DK es, R]) := by
 refine (Ia p c B R hR hl hB hcap).mono ?_
 rintro e2 G ⟨v, rfl, (⟨e', h, _⟩ | ⟨q, cq, es, h, h1, h2, rfl, rfl⟩)⟩
 ·rw [hc] at h; cases h
 ·rw [hc] at h; cases h; exact ⟨_, rfl, q, cq, es, rfl, h1, h2, rfl, rfl⟩
theorem EL {B : List Int} {es : List Ce} (hB : af.ak B) (hc : aa.cut B = .ok (es.map Ce.ch)) : JR es := fun x hx => aa.SY hB hc x.ch (List.mem_map_of_mem hx)
theorem qo (es : List Ce) : aa.dq (es.map Ce.ch) = (CK.g es 0).d := by
 unfold aa.dq
 cases es <;> rfl
theorem Nb {es : List Ce} (h : 0 < es.length) : CK.g es 0 ∈ es := by
 match es, h with
 | x :: es, _ => exact List.mem_cons_self ..
theorem uo {es : List Ce} {s : pA} (hs : lK es es.length s) (ho : aa.cD (es.map Ce.ch) = true) : s.P = aa.bu (es.map Ce.ch) aa.aN ∧ s.T = aa.bu (es.map Ce.ch) aa.aS ∧ s.D = aa.bW (es.map Ce.ch) ∧ s.hp = aa.dX (es.map Ce.ch) aa.aN ∧ s.ht = aa.dX (es.map Ce.ch) aa.aS := by
 obtain ⟨h1, h2, h3, h4, h5, _⟩ := hs
 have e : (es.map Ce.ch).take es.length = es.map Ce.ch := List.take_of_length_le (by rw [List.length_map]; exact Nat.le_refl _)
 rw [e] at h1 h2 h3 h4 h5
 have hl := aa.F0 ho
 exact ⟨h1.trans hl.1, h2.trans hl.2, h3, h4, h5⟩
theorem re (h : aa.Hd) (hd : aa.iy h.dep) (bf : Nat) (pp : Option Addr) (pl : List Int) (cp : Nat) (pt : Option Addr) (tr : List Int) (ct : Nat) (pd : Option Addr) (nd cd : Nat) (pk : Option Addr) (nk ck : Nat) (hl : pl.length < 500000000) (has : Bool) (t : Bool) (ht : t = decide (aa.iB h pl has)) : aC Tryz.prog 40 [.pointer (some ⟨bf, 0, none⟩), .bool has] [ai bf 90 [.int .i64 h.w, .int .i64 h.h, .int .i64 h.dep, .int .i64 h.ar, .bool h.aZ, .slice pp pl.length cp, .slice pt tr.length ct, .slice pd nd cd, .slice pk nk ck]] (aG fun v G => v = .bool t ∧ G = [ai bf 90 [.int .i64 h.w, .int .i64 h.h, .int .i64 h.dep, .int .i64 h.ar, .bool h.aZ, .slice pp pl.length cp, .slice pt tr.length ct, .slice pd nd cd, .slice pk nk ck]]) := by
 cases has with
 | true => exact EP h hd bf pp pl cp pt tr ct pd nd cd pk nk ck hl t ht
 | false => exact DW h hd bf pp pl cp pt tr ct pd nd cd pk nk ck hl t ht
theorem xg (h : aa.Hd) (hd : aa.iy h.dep) (bf : Nat) (pp : Option Addr) (pl : List Int) (cp : Nat) (pt : Option Addr) (tr : List Int) (ct : Nat) (pd : Option Addr) (nd cd : Nat) (hpl : pl.length < 500000000) (htl : tr.length < 500000000) (hB : af.ak tr) (R : ab) (hR : ∀ w0 h, R w0 h → aE U5 pt tr.length tr w0 h) (is : Bool) (hi : is = false → tr = []) (t : Bool) (ht : t = decide (aa.iI h pl tr is)) : aC Tryz.prog 41 [.pointer (some ⟨bf, 0, none⟩), .bool is] [ai bf 90 [.int .i64 h.w, .int .i64 h.h, .int .i64 h.dep, .int .i64 h.ar, .bool h.aZ, .slice pp pl.length cp, .slice pt tr.length ct, .slice pd nd cd, .slice none 0 0], R] (aG fun v G => ∃ pk nk ck K, (t = true → K = aa.aR h tr) ∧ K.length = nk ∧ v = .bool t ∧ G = [ai bf 90 [.int .i64 h.w, .int .i64 h.h, .int .i64 h.dep, .int .i64 h.ar, .bool h.aZ, .slice pp pl.length cp, .slice pt tr.length ct, .slice pd nd cd, .slice pk nk ck], Row (aD 3 .i64) pk nk ck K, R]) := by
 cases is with
 | true => exact BK h hd bf pp pl cp pt tr ct pd nd cd hpl htl hB R hR t ht
 | false =>
  have e := Cn h hd bf pp pl cp pt tr ct pd nd cd hpl (hi rfl) htl hB t (ht.trans (decide_eq_true (aa.Om h pl tr)))
  refine (e.frame [R]).mono ?_
  rintro e2 G ⟨v, rfl, G', ⟨pk, nk, ck, K, h1, h2, h3, rfl⟩, rfl⟩
  exact ⟨_, rfl, pk, nk, ck, K, h1, h2, h3, rfl⟩
set_option maxHeartbeats 16000000 in
theorem ou (p : Option Addr) (c : Nat) (B : List Int) (R : ab) (hR : ∀ w0 h, R w0 h → aE U5 p B.length B w0 h) (hl : B.length < 500000000) (hB : af.ak B) (hcap : B.length ≤ c) (r : aa.pH × Int) (hr0 : aa.jV B r) : aC Tryz.prog 14 [.slice p B.length c] [R] (aG fun v G => ∃ q n c2, v = .tuple #[.agg #[.int .i64 r.1.w, .int .i64 r.1.h, .slice q n c2], .int .i64 r.2] ∧ r.1.pix.length = n ∧ n ≤ c2 ∧ G = [Row (aD 62 .u16) q n c2 r.1.pix, R]) := by
 refine au [(0, _)] Tryz.func14 rfl Tryz.ntmps14 rfl rfl ?_
 intro w0 F
 refine (Qr)<|(tA) ?_
 intro b2
 refine (Qe) ?_
 rcases (hr0.WZ) with ⟨e, h1, hr⟩ | ⟨l, h1, ho, hr⟩ | ⟨l, h1, ho, hh, hr⟩ | ⟨l, h1, ho, hh, ht, hr⟩ | ⟨l, h1, ho, hh, ht, hc, hr⟩ | ⟨l, z, h1, ho, hh, ht, hc, hz, hr⟩
 ·refine (Q4) ?_
  refine aj (Re p c B R hR hl hB hcap e h1) V.WK  rfl (.cons ay .nil) rfl ?_
  rintro _ _ ⟨rfl, rfl⟩
  refine (Qs) ?_
  refine oV (cJ (cE rfl rfl) (aa.RW h1))<|(Q3)<|(vR)<|(Q6)<|(Zc)<|(Q3) ?_
  subst hr
  exact ag (dO V.gn rfl dM rfl rfl) ⟨none, 0, 0, rfl, rfl, Nat.le_refl _, rfl⟩ ((cZ (A := Row (aD 62 .u16) none 0 0 []) (fun w0 => Row.nil _ _ _)).trans (sub (aT .nil) bC))
 ·refine (Q4)<|(EX) ?_
  rintro _ _ ⟨q13, c13, es, rfl, hel, hco, rfl, rfl⟩
  refine (Qs)<|(oK)<|(Qc) ?_
  refine gU (fun w hi => eZ hi (show Row CK q13 es.length c13 es ∈ _ by exact aA)) (fun hcq => ?_)
  refine (Qa)<|(Eo) ?_
  rintro _ _ ⟨rfl, rfl⟩
  rw [aa.k8 ho]
  refine (Q1) ?_
  refine oV (cJ (cE rfl rfl) (by decide))<|(Q3)<|(vR)<|(Q6)<|(NY)<|(Q3) ?_
  subst hr
  exact ag (dO V.gn rfl ig rfl rfl) ⟨none, 0, 0, rfl, rfl, Nat.le_refl _, rfl⟩ ((cZ (A := Row (aD 62 .u16) none 0 0 []) (fun w0 => Row.nil _ _ _)).trans (sub (aq (.cons bj .nil)) my))
 ·refine (Q4)<|(EX) ?_
  rintro _ _ ⟨q13, c13, es, rfl, hel, hco, rfl, rfl⟩
  refine (Qs)<|(oK)<|(Qc) ?_
  refine gU (fun w hi => eZ hi (show Row CK q13 es.length c13 es ∈ _ by exact aA)) (fun hcq => ?_)
  refine (Qa)<|(Eo) ?_
  rintro _ _ ⟨rfl, rfl⟩
  rw [aa.oX ho]
  refine (Q1)<|(oK)<|(Q1) ?_
  have h3 : 0 < es.length := by have := aa.wg ho; rw [List.length_map] at this; omega
  refine (H9)<|(pe)<|(Ib)<|(Jc) ?_
  rintro _ _ ⟨rfl, rfl⟩
  refine (Qe) ?_
  refine c4 V.ve rfl ?_
  intro b7
  refine (vi)<|(Qc) ?_
  refine oV (cJ (cE rfl rfl) (by rw [← qo]; exact hh))<|(Q3)<|(vR)<|(Q6)<|(RY)<|(Q3) ?_
  rw [← qo]
  subst hr
  exact ag (dO V.gn rfl jB rfl rfl) ⟨none, 0, 0, rfl, rfl, Nat.le_refl _, rfl⟩ ((cZ (A := Row (aD 62 .u16) none 0 0 []) (fun w0 => Row.nil _ _ _)).trans (sub (aq (.cons dw .nil)) k6))
 ·refine (Q4)<|(EX) ?_
  rintro _ _ ⟨q13, c13, es, rfl, hel, hco, rfl, rfl⟩
  refine (Qs)<|(oK)<|(Qc) ?_
  refine gU (fun w hi => eZ hi (show Row CK q13 es.length c13 es ∈ _ by exact aA)) (fun hcq => ?_)
  refine (Qa)<|(Eo) ?_
  rintro _ _ ⟨rfl, rfl⟩
  rw [aa.oX ho]
  refine (Q1)<|(oK)<|(Q1) ?_
  have h3 : 0 < es.length := by have := aa.wg ho; rw [List.length_map] at this; omega
  obtain ⟨h, hhd⟩ : ∃ h, h = aa.aL (aa.dq (es.map Ce.ch)) := ⟨_, rfl⟩
  rw [← hhd] at ht
  obtain ⟨hde, hsz⟩ := aa.sj hh
  rw [← hhd] at hde hsz
  have hd := aa.gp hde
  have hcl := aa.u9 h1
  refine (H9)<|(pe)<|(Ib)<|(Jc) ?_
  rintro _ _ ⟨rfl, rfl⟩
  rw [← qo, hh, aa.wC hh, ← hhd]
  refine (Qe) ?_
  refine c4 V.ve rfl ?_
  intro b7
  refine (vi)<|(Qc)<|(oK)<|(Qj)<|(MZ) ?_
  rintro _ _ ⟨s, hs, rfl, rfl⟩
  refine (Q8) ?_
  refine c4 V.Il rfl ?_
  intro b8
  refine (JT)<|(Q1)<|(MK) ?_
  refine oV (bp V.gD rfl)<|(vi)<|(Q8) ?_
  obtain ⟨eP, eT, eD, ep, et⟩ := uo hs ho
  have hso := hs
  obtain ⟨_, _, _, _, _, hcp, hct, hrP, hrT⟩ := hso
  have hBP : af.ak s.P := eP ▸ aa.kU (aa.iW hB h1) _
  have hBT : af.ak s.T := eT ▸ aa.kU (aa.iW hB h1) _
  have hBD : af.ak s.D := eD ▸ aa.rP (aa.iW hB h1)
  have hlP : s.P.length < 500000000 := by rw [eP]; exact Nat.lt_of_le_of_lt aa.lN (by omega)
  have hlT : s.T.length < 500000000 := by rw [eT]; exact Nat.lt_of_le_of_lt aa.lN (by omega)
  have hlD : s.D.length < 500000000 := by rw [eD]; exact Nat.lt_of_le_of_lt (aa.nH _) (by omega)
  have hn0 : s.hp = false → s.P = [] := fun q => by rw [eP]; exact aa.nq (ep.symm.trans q)
  have hn1 : s.ht = false → s.T = [] := fun q => by rw [eT]; exact aa.nq (et.symm.trans q)
  rw [← eP, ← ep] at ht
  refine (Qa) ?_
  refine aj (re h hd b8 s.pp s.P s.cp s.pt s.T s.ct s.pd s.D.length s.cd none 0 0 hlP s.hp false (decide_eq_false ht).symm) V.JB  rfl (aq .nil) rfl ?_
  rintro _ _ ⟨rfl, rfl⟩
  refine (Qs)<|(vR) ?_
  refine cu (bd V.gn rfl rfl (us := [_, _, _]) rfl rfl (by exact WC) (by exact Nat.le_of_ble_eq_true rfl) rfl)<|(Q3) ?_
  subst hr
  exact ag (dO V.gn rfl JN rfl rfl) ⟨none, 0, 0, rfl, rfl, Nat.le_refl _, rfl⟩ ((cZ (A := Row (aD 62 .u16) none 0 0 []) (fun w0 => Row.nil _ _ _)).trans (sub (aq (.cons jJ .nil)) U2))
 ·refine (Q4)<|(EX) ?_
  rintro _ _ ⟨q13, c13, es, rfl, hel, hco, rfl, rfl⟩
  refine (Qs)<|(oK)<|(Qc) ?_
  refine gU (fun w hi => eZ hi (show Row CK q13 es.length c13 es ∈ _ by exact aA)) (fun hcq => ?_)
  refine (Qa)<|(Eo) ?_
  rintro _ _ ⟨rfl, rfl⟩
  rw [aa.oX ho]
  refine (Q1)<|(oK)<|(Q1) ?_
  have h3 : 0 < es.length := by have := aa.wg ho; rw [List.length_map] at this; omega
  obtain ⟨h, hhd⟩ : ∃ h, h = aa.aL (aa.dq (es.map Ce.ch)) := ⟨_, rfl⟩
  rw [← hhd] at ht
  obtain ⟨hde, hsz⟩ := aa.sj hh
  rw [← hhd] at hde hsz
  have hd := aa.gp hde
  have hcl := aa.u9 h1
  refine (H9)<|(pe)<|(Ib)<|(Jc) ?_
  rintro _ _ ⟨rfl, rfl⟩
  rw [← qo, hh, aa.wC hh, ← hhd]
  refine (Qe) ?_
  refine c4 V.ve rfl ?_
  intro b7
  refine (vi)<|(Qc)<|(oK)<|(Qj)<|(MZ) ?_
  rintro _ _ ⟨s, hs, rfl, rfl⟩
  refine (Q8) ?_
  refine c4 V.Il rfl ?_
  intro b8
  refine (JT)<|(Q1)<|(MK) ?_
  refine oV (bp V.gD rfl)<|(vi)<|(Q8) ?_
  obtain ⟨eP, eT, eD, ep, et⟩ := uo hs ho
  have hso := hs
  obtain ⟨_, _, _, _, _, hcp, hct, hrP, hrT⟩ := hso
  have hBP : af.ak s.P := eP ▸ aa.kU (aa.iW hB h1) _
  have hBT : af.ak s.T := eT ▸ aa.kU (aa.iW hB h1) _
  have hBD : af.ak s.D := eD ▸ aa.rP (aa.iW hB h1)
  have hlP : s.P.length < 500000000 := by rw [eP]; exact Nat.lt_of_le_of_lt aa.lN (by omega)
  have hlT : s.T.length < 500000000 := by rw [eT]; exact Nat.lt_of_le_of_lt aa.lN (by omega)
  have hlD : s.D.length < 500000000 := by rw [eD]; exact Nat.lt_of_le_of_lt (aa.nH _) (by omega)
  have hn0 : s.hp = false → s.P = [] := fun q => by rw [eP]; exact aa.nq (ep.symm.trans q)
  have hn1 : s.ht = false → s.T = [] := fun q => by rw [eT]; exact aa.nq (et.symm.trans q)
  rw [← eP, ← ep] at ht
  rw [← hhd, ← eP, ← eT, ← et] at hc
  refine rC TT 2 rfl ?_
  refine aj (re h hd b8 s.pp s.P s.cp s.pt s.T s.ct s.pd s.D.length s.cd none 0 0 hlP s.hp true (decide_eq_true ht).symm) V.JB  rfl (aq .nil) rfl ?_
  rintro _ _ ⟨rfl, rfl⟩
  refine (Qf) ?_
  refine aj (xg h hd b8 s.pp s.P s.cp s.pt s.T s.ct s.pd s.D.length s.cd hlP hlT hBT (DK es) hrT s.ht hn1 false (decide_eq_false hc).symm) V.WO  rfl (aq (.cons bj .nil)) rfl ?_
  rintro _ _ ⟨pk, nk, ck, K, hK, hKn, rfl, rfl⟩
  refine (Qc)<|(vR) ?_
  refine cu (bd V.gn rfl rfl (us := [_, _, _]) rfl rfl (by exact WS) (by exact Nat.le_of_ble_eq_true rfl) rfl)<|(Q3) ?_
  subst hr
  exact ag (dO V.gn rfl JS rfl rfl) ⟨none, 0, 0, rfl, rfl, Nat.le_refl _, rfl⟩ ((cZ (A := Row (aD 62 .u16) none 0 0 []) (fun w0 => Row.nil _ _ _)).trans (sub (aq (.cons mF .nil)) DL))
 ·refine (Q4)<|(EX) ?_
  rintro _ _ ⟨q13, c13, es, rfl, hel, hco, rfl, rfl⟩
  refine (Qs)<|(oK)<|(Qc) ?_
  refine gU (fun w hi => eZ hi (show Row CK q13 es.length c13 es ∈ _ by exact aA)) (fun hcq => ?_)
  refine (Qa)<|(Eo) ?_
  rintro _ _ ⟨rfl, rfl⟩
  rw [aa.oX ho]
  refine (Q1)<|(oK)<|(Q1) ?_
  have h3 : 0 < es.length := by have := aa.wg ho; rw [List.length_map] at this; omega
  obtain ⟨h, hhd⟩ : ∃ h, h = aa.aL (aa.dq (es.map Ce.ch)) := ⟨_, rfl⟩
  rw [← hhd] at ht
  obtain ⟨hde, hsz⟩ := aa.sj hh
  rw [← hhd] at hde hsz
  have hd := aa.gp hde
  have hcl := aa.u9 h1
  refine (H9)<|(pe)<|(Ib)<|(Jc) ?_
  rintro _ _ ⟨rfl, rfl⟩
  rw [← qo, hh, aa.wC hh, ← hhd]
  refine (Qe) ?_
  refine c4 V.ve rfl ?_
  intro b7
  refine (vi)<|(Qc)<|(oK)<|(Qj)<|(MZ) ?_
  rintro _ _ ⟨s, hs, rfl, rfl⟩
  refine (Q8) ?_
  refine c4 V.Il rfl ?_
  intro b8
  refine (JT)<|(Q1)<|(MK) ?_
  refine oV (bp V.gD rfl)<|(vi)<|(Q8) ?_
  obtain ⟨eP, eT, eD, ep, et⟩ := uo hs ho
  have hso := hs
  obtain ⟨_, _, _, _, _, hcp, hct, hrP, hrT⟩ := hso
  have hBP : af.ak s.P := eP ▸ aa.kU (aa.iW hB h1) _
  have hBT : af.ak s.T := eT ▸ aa.kU (aa.iW hB h1) _
  have hBD : af.ak s.D := eD ▸ aa.rP (aa.iW hB h1)
  have hlP : s.P.length < 500000000 := by rw [eP]; exact Nat.lt_of_le_of_lt aa.lN (by omega)
  have hlT : s.T.length < 500000000 := by rw [eT]; exact Nat.lt_of_le_of_lt aa.lN (by omega)
  have hlD : s.D.length < 500000000 := by rw [eD]; exact Nat.lt_of_le_of_lt (aa.nH _) (by omega)
  have hn0 : s.hp = false → s.P = [] := fun q => by rw [eP]; exact aa.nq (ep.symm.trans q)
  have hn1 : s.ht = false → s.T = [] := fun q => by rw [eT]; exact aa.nq (et.symm.trans q)
  rw [← eP, ← ep] at ht
  rw [← hhd, ← eP, ← eT, ← et] at hc
  refine rC TT 2 rfl ?_
  refine aj (re h hd b8 s.pp s.P s.cp s.pt s.T s.ct s.pd s.D.length s.cd none 0 0 hlP s.hp true (decide_eq_true ht).symm) V.JB  rfl (aq .nil) rfl ?_
  rintro _ _ ⟨rfl, rfl⟩
  refine (Qf) ?_
  refine aj (xg h hd b8 s.pp s.P s.cp s.pt s.T s.ct s.pd s.D.length s.cd hlP hlT hBT (DK es) hrT s.ht hn1 true (decide_eq_true hc).symm) V.WO  rfl (aq (.cons bj .nil)) rfl ?_
  rintro _ _ ⟨pk, nk, ck, K, hK, rfl, rfl, rfl⟩
  obtain rfl := hK rfl
  refine (Qj) ?_
  refine gU (fun w hi => eZ hi (show Row U5 s.pd s.D.length s.cd s.D ∈ _ by exact ig)) (fun hcD => ?_)
  refine (Qo) ?_
  refine aj (Rm h b8 s.pp s.P s.cp s.pt s.T s.ct s.pd s.cd pk ck (DK es) hrP hrT hcp hBP hBT hlP hlT (Row (aD 3 .i64) pk (aa.aR h s.T).length ck (aa.aR h s.T)) (fun _ _ hh => hh.rd) (aa.JY hde hBP hBT hlP hlT ht hc hn0 hn1) hsz s.D hBD hlD hcD (Row U5 s.pd s.D.length s.cd s.D) (fun _ _ hh => hh.rd) z (by rw [eD, hhd]; exact hz)) V.Ze  rfl (aT (.cons ay (.cons dg .nil))) rfl ?_
  rintro _ _ ⟨q55, n55, c55, rfl, hn55, hc55, rfl⟩
  refine (Q7)<|(RY)<|(Q8) ?_
  rw [aa.OY hhd eP eT] at hr
  subst hr
  exact ag (dO V.gn rfl jB rfl rfl) ⟨q55, n55, c55, rfl, hn55, hc55, rfl⟩ (sub (aq (.cons bj .nil)) my)
end Go.Proofs.YtmaiakpjgomnpaaGreat
namespace Go.Proofs.YtmaiakpjgomnpaaGreat
open Go.Sl
theorem V.mR : aB Tryz.prog 35 = true := by kernel_rfl
end Go.Proofs.YtmaiakpjgomnpaaGreat
namespace Go.Proofs.YtmaiakpjgomnpaaGreat
open Go.Sl 
attribute [local irreducible] af.ak aa.aW aa.bM aa.deep aa.parts HW aa.aR aa.fy aa.dJ aa.fu aa.dS aa.eg aa.kW aa.kb aa.eJ aa.dv aa.eu aa.lk aa.want aa.aO aa.kR aa.m8 aa.m0 aa.iX aH.lZ aa.ba aa.aN aa.aS aa.aY aa.bQ aa.eF aa.iB aa.iI aa.mh aa.bW aa.cD aa.cut aa.dq aa.oG aa.bu aa.dX
theorem K1 (w h : Int) (hs : aa.aW w h = 0) : aC Tryz.prog 35 [.int .i64 w, .int .i64 h] [] (aG fun v G => ∃ b : Nat, v = .tuple #[.agg #[.int .i64 w, .int .i64 h, .slice (some ⟨b, 0, none⟩) ((4 * w * h).toNat) ((4 * w * h).toNat)], .int .i64 0] ∧ G = [Row (aD 62 .u16) (some ⟨b, 0, none⟩) ((4 * w * h).toNat) ((4 * w * h).toNat) (List.replicate ((4 * w * h).toNat) 0)]) := by
  refine (Uf w h).mono ?_
  rintro e2 G ⟨v, rfl, (⟨h1, _⟩ | ⟨_, b, rfl, rfl⟩)⟩
  · exact absurd hs h1
  · exact ⟨_, rfl, b, rfl, rfl⟩
end Go.Proofs.YtmaiakpjgomnpaaGreat
namespace Go.Proofs.YtmaiakpjgomnpaaGreat
open Go.Sl
theorem V.YN : aB Tryz.prog 62 = true := by kernel_rfl
end Go.Proofs.YtmaiakpjgomnpaaGreat
namespace Go.Proofs.YtmaiakpjgomnpaaGreat
open Go.Sl 
attribute [local irreducible] af.ak aJ.il aJ.gI ad.fg ad.fc aH.fk aH.jP aa.cP aa.aU aa.eA aa.gj aa.ba aa.aY aa.bQ aa.ee aa.cY aa.bY aa.eI aa.two aa.hB aa.jh aa.jV aa.js aa.parts
set_option maxHeartbeats 4000000 in
theorem GM (p : Option Addr) (c : Nat) (B : List Int) (R : ab) (hR : ∀ w0 h, R w0 h → aE U5 p B.length B w0 h) (hl : B.length ≤ 4194304) (hcap : B.length ≤ c) : aC Tryz.prog 62 [.slice p B.length c] [R] (aG fun v G => ∃ q cq, v = .slice q (aJ.gI B).length cq ∧ G = [Row U5 q (aJ.gI B).length cq (aJ.gI B), R]) := by
 refine au [(0, _)] Tryz.func62 rfl Tryz.ntmps62 rfl rfl ?_
 intro w0 F
 refine rT TT 12 rfl<|(vg) ?_
 refine AS (fun (f : Nat) (pz : Option Addr) (cz : Nat) (Z : List Int) (po : Option Addr) (co : Nat) (O : List Int) => [(0, .slice pz Z.length cz), (3, .slice po O.length co)]) (fun (f : Nat) (pz : Option Addr) (cz : Nat) (Z : List Int) (po : Option Addr) (co : Nat) (O : List Int) => Row U5 po O.length co O :: R :: F) (fun (f : Nat) (pz : Option Addr) (cz : Nat) (Z : List Int) (po : Option Addr) (co : Nat) (O : List Int) => O ++ ad.fg (aJ.il f Z) = aJ.gI B ∧ Z.length ≤ 65535 * (f + 1) ∧ (∀ w0 h, R w0 h → aE U5 pz Z.length Z w0 h) ∧ Z.length ≤ cz ∧ O.length + Z.length ≤ 2 * B.length + 5 * (65 - f) ∧ f ≤ 64) (fun (f : Nat) (pz : Option Addr) (cz : Nat) (Z : List Int) (po : Option Addr) (co : Nat) (O : List Int) => f) (i7 (64) (p) (c) (B) (none) (0) ([]) ?_ (jg ln) (sub (aT .nil) ao)) ?_
 ·exact ⟨aJ.N2 B, by omega, hR, hcap, by simp; omega, by omega⟩
 intro f pz cz Z po co O
 rintro ⟨hO, hZf, hZR, hZc, hOl, hf⟩
 refine rL TT 1 rfl ?_
 rcases (Nat.lt_or_ge 65535 Z.length) with hZ | hZ
 ·refine (Q5) ?_
  refine oV (de (v := .int .i64 65535) (I2 rfl rfl) (by rw [if_pos (by omega)]))<|(QP)<|(QC)<|(Qi) ?_
  refine oV (cW V.u3 Tryz.underlying5 rfl (af.fY (65535 : Int)))<|(Q6) ?_
  refine oV (dP (r := (65535 : Int) / 256) rfl rfl (by omega) (af.lA (k := 8) (by decide) rfl))<|(pU)<|(Q6)<|(U3) ?_
  refine oV (cW V.u3 Tryz.underlying5 rfl ((af.fY _).trans (show (-(65535 : Int) - 1) % 256 = 255 - (65535 : Int) % 256 from by omega)))<|(Q6)<|(U3) ?_
  refine oV (dP (r := (-(65535 : Int) - 1) / 256) rfl rfl (by omega) (af.lA (k := 8) (by decide) rfl))<|oV (cW V.u3 Tryz.underlying5 rfl ((af.fY _).trans (show ((-(65535 : Int) - 1) / 256) % 256 = 255 - (65535 : Int) / 256 from by omega)))<|cM (U5) [0, (65535 : Int) % 256, (65535 : Int) / 256, 255 - (65535 : Int) % 256, 255 - (65535 : Int) / 256] V.bK V.z5 rfl rfl rfl rfl rfl rfl ?_
  intro IN
  refine (Fm) ?_
  intro p28 c28
  refine (Q8) ?_
  have hPR : ∀ w0 h, R w0 h → aE U5 pz 65535 (Z.take 65535) w0 h := kV (cap := 0) hZR 65535 (by omega)
  refine (Q5) ?_
  refine oV (iK 65535 cz V.bK rfl ⟨_, rfl⟩ rfl (by omega) (by omega))<|ff (c := (U5)) V.bK V.z5 rfl rfl rfl rfl dg (by exact bG hPR dL) (by omega) rfl ?_
  intro p33 c33
  refine (Qc) ?_
  refine oV (dY 65535 Z.length cz V.bK rfl ⟨_, rfl⟩ ⟨rfl, rfl⟩ rfl (by omega) (by omega) (by omega))<|(Q1)<|(oT)<|(Q3) ?_
  obtain ⟨f, rfl⟩ : ∃ f2, f = f2 + 1 := ⟨f - 1, by omega⟩
  have hnx := aJ.Hz hO hZ
  have hle : (O ++ [0, (65535 : Int) % 256, (65535 : Int) / 256, 255 - (65535 : Int) % 256, 255 - (65535 : Int) / 256] ++ Z.take 65535).length = O.length + 5 + 65535 := by simp; omega
  have hdl : (Z.drop 65535).length = Z.length - 65535 := List.length_drop
  rw [← hdl, ← hle]
  exact j7 f _ _ (Z.drop 65535) _ _ _ ⟨⟨hnx, by omega, by rw [hdl]; exact fT hZR rfl 65535 cz (by omega) hZc, by omega, by omega, by omega⟩, by omega⟩ (.cons rfl (.cons rfl (.nil _))) (sub (.cons dg (.cons ay .nil)) bC)
 ·refine (Q5) ?_
  refine oV (de (v := .int .i64 (Z.length : Int)) (I2 rfl rfl) (by rw [if_neg (by omega)]))<|(QP)<|(QD)<|(QL) ?_
  refine oV (cW V.u3 Tryz.underlying5 rfl (af.fY (Z.length : Int)))<|(Q6) ?_
  refine oV (dP (r := (Z.length : Int) / 256) rfl rfl (by omega) (af.lA (k := 8) (by decide) rfl))<|(pU)<|(Q6)<|(UT) ?_
  refine oV (cW V.u3 Tryz.underlying5 rfl ((af.fY _).trans (show (-(Z.length : Int) - 1) % 256 = 255 - (Z.length : Int) % 256 from by omega)))<|(Q6)<|(UT) ?_
  refine oV (dP (r := (-(Z.length : Int) - 1) / 256) rfl rfl (by omega) (af.lA (k := 8) (by decide) rfl))<|oV (cW V.u3 Tryz.underlying5 rfl ((af.fY _).trans (show ((-(Z.length : Int) - 1) / 256) % 256 = 255 - (Z.length : Int) / 256 from by omega)))<|cM (U5) [1, (Z.length : Int) % 256, (Z.length : Int) / 256, 255 - (Z.length : Int) % 256, 255 - (Z.length : Int) / 256] V.bK V.z5 rfl rfl rfl rfl rfl rfl ?_
  intro IN
  refine (Fm) ?_
  intro p28 c28
  refine (Qj) ?_
  refine oV (iK Z.length cz V.bK rfl ⟨_, rfl⟩ rfl (by omega) (by omega))<|ff (c := (U5)) V.bK V.z5 rfl rfl rfl rfl dg (by exact bG hZR dL) (by omega) rfl ?_
  intro p33 c33
  refine (Qc) ?_
  refine oV (dY Z.length Z.length cz V.bK rfl ⟨_, rfl⟩ ⟨rfl, rfl⟩ rfl (by omega) (by omega) (by omega))<|(Q1)<|(yt)<|(QK) ?_
  have hnx := aJ.GS hO (by omega)
  have hle : (O ++ [1, (Z.length : Int) % 256, (Z.length : Int) / 256, 255 - (Z.length : Int) % 256, 255 - (Z.length : Int) / 256] ++ Z).length = O.length + 5 + Z.length := by simp; omega
  rw [hnx] at hle
  rw [← hle, hnx]
  exact ag (aw rfl) ⟨_, _, rfl, rfl⟩ (sub (aq (.cons ay .nil)) bC)
set_option maxHeartbeats 2000000 in
theorem AJ (p : Option Addr) (c : Nat) (B : List Int) (R : ab) (hR : ∀ w0 h, R w0 h → aE U5 p B.length B w0 h) (hl : B.length ≤ 4194304) (hB : af.ak B) (hcap : B.length ≤ c) : aC Tryz.prog 27 [.slice p B.length c] [R] (aG fun v G => ∃ q cq, v = .slice q (aa.cP B).length cq ∧ G = [Row U5 q (aa.cP B).length cq (aa.cP B), R]) := by
 refine au [(0, _)] Tryz.func27 rfl Tryz.ntmps27 rfl rfl ?_
 intro w0 F
 have hsl := aJ.u4 hl
 have ha := aH.xf B
 refine rT TT 7 rfl<|cM (U5) [120, 1] V.bK V.z5 rfl rfl rfl rfl rfl rfl ?_
 intro b5
 refine (Q6) ?_
 refine aj (GM p c B R hR hl hcap) V.YN  rfl (.cons ay .nil) rfl ?_
 rintro _ _ ⟨qz, cz, rfl, rfl⟩
 refine (Sr) ?_
 intro p8 c8
 refine (Q1) ?_
 refine aj (RR p c B R hR (by omega) hB) V.Zw  rfl (.cons bj .nil) rfl ?_
 rintro _ _ ⟨rfl, rfl⟩
 refine (Qc) ?_
 refine oV (dP (r := (aH.fk B) / 16777216) rfl rfl (by decide) (aa.lH (n := 24) rfl (by decide) rfl))<|oV (cW V.Bq Tryz.underlying5 rfl ((aa.fY _).trans (by omega : (aH.fk B) / 16777216 % 256 = (aH.fk B) / 16777216)))<|(Q6) ?_
 refine oV (dP (r := (aH.fk B) / 65536) rfl rfl (by decide) (aa.lH (n := 16) rfl (by decide) rfl))<|(vL)<|(Q6) ?_
 refine oV (dP (r := (aH.fk B) / 256) rfl rfl (by decide) (aa.lH (n := 8) rfl (by decide) rfl))<|(vL)<|(Q6)<|(vL) ?_
 refine cM (U5) [(aH.fk B) / 16777216, (aH.fk B) / 65536 % 256, (aH.fk B) / 256 % 256, (aH.fk B) % 256] V.bK V.z5 rfl rfl rfl rfl rfl rfl ?_
 intro Vb
 refine (Sr) ?_
 intro p24 c24
 refine (Q8) ?_
 have hle : 2 + (aJ.gI B).length + 4 = (aa.cP B).length := by rw [aa.nj hl]; omega
 rw [hle, show [120, 1] ++ aJ.gI B ++ [(aH.fk B) / 16777216, (aH.fk B) / 65536 % 256, (aH.fk B) / 256 % 256, (aH.fk B) % 256] = aa.cP B from by unfold aa.cP aH.jP; rfl]
 exact ag (aw rfl) ⟨_, _, rfl, rfl⟩ (sub (aq (.cons ay .nil)) fS)
set_option maxHeartbeats 8000000 in
theorem zG (p : Option Addr) (c : Nat) (es : List Ce) (R : ab) (hR : ∀ w0 h, R w0 h → aE aQ p es.length es w0 h) (D : ab) (hD : ∀ x ∈ es, ∀ w0 h, D w0 h → aE U5 x.p x.d.length x.d w0 h) (hel : es.length ≤ 262144) (hok : ∀ x ∈ es, aa.js x.ch) (hj : (aa.aU (es.map Ce.ch)).length ≤ 262144) : aC Tryz.prog 28 [.slice p es.length c] [R, D] (aG fun v G => ∃ q cq, v = .tuple #[.slice q (aa.aU (es.map Ce.ch)).length cq, .int .i64 0] ∧ G = [Row U5 q (aa.aU (es.map Ce.ch)).length cq (aa.aU (es.map Ce.ch)), R, D]) := by
 refine au [(0, _)] Tryz.func28 rfl Tryz.ntmps28 rfl rfl ?_
 intro w0 F
 refine (QJ) ?_
 refine aj (Sq) V.Yx  rfl .nil rfl ?_
 rintro _ _ ⟨rfl, rfl⟩
 refine yg Tryz.underlying9 Tryz.underlying22 Tryz.underlying5 rfl (aa.bo aa.sr) rfl ?_
 intro b10 c10
 refine (QK) ?_
 rw [show aa.ee = aa.aU ((es.map Ce.ch).take 0) from (aa.Nw _).symm]
 refine gM (fun (i : Nat) (po : Option Addr) (co : Nat) => [(0, .slice p es.length c), (4, .slice po (aa.aU ((es.map Ce.ch).take i)).length co), (5, .bool false), (6, .int .i64 (i : Int))]) (fun (i : Nat) (po : Option Addr) (co : Nat) => Row U5 po (aa.aU ((es.map Ce.ch).take i)).length co (aa.aU ((es.map Ce.ch).take i)) :: R :: D :: F) (fun (i : Nat) (po : Option Addr) (co : Nat) => i ≤ es.length) (fun (i : Nat) (po : Option Addr) (co : Nat) => es.length - i) (i3 (0) (_) (_) ?_ (eQ ln) (sub (fQ .nil) ao)) ?_
 ·exact Nat.zero_le _
 intro i po co
 rintro hi
 refine rL TT 9 rfl ?_
 refine aF rfl (fun h14 => ?_) (fun h14 => ?_)
 ·refine (Qd) ?_
  have hcx := pg (es := es) (i := i) (by omega)
  have hxm := mv (i := i) (fun x => x ∈ es) (fun x hx => hx) (by omega)
  have hxo := hok _ hxm
  unfold aa.js at hxo
  have hxn : aa.cY (aQ.g es (i : Int)).k := hxo.1
  have hxk : af.ak (aQ.g es (i : Int)).k := aa.qF hxn
  have hxl := aa.zQ hxn
  have hxB : af.ak (aQ.g es (i : Int)).d := hxo.2.1
  have hjs := aa.OK hcx
  have hjl := aa.join_le (es.map Ce.ch) (i + 1)
  have hjl2 : (aa.aU ((es.map Ce.ch).take (i + 1))).length = (aa.aU ((es.map Ce.ch).take i)).length + (aa.eA (aQ.g es (i : Int)).ch).length := by rw [hjs, List.length_append]
  have hcb : (aa.eA (aQ.g es (i : Int)).ch).length = 4 + (aQ.g es (i : Int)).k.length + (aQ.g es (i : Int)).d.length + 4 := aa.Ht _
  refine (Q4) ?_
  refine oV (xI V.n5 (by exact bG hR dM))<|oV (bp V.s8 rfl)<|oV (fN (c := (aQ)) 0 V.s9 rfl (by exact bG hR dM) (by omega) (by omega) rfl rfl)<|aj (Ea (aQ.g es (i : Int)).k hxk (by omega) true (decide_eq_true hxn).symm) V.Zh  rfl .nil rfl ?_
  rintro _ _ ⟨rfl, rfl⟩
  refine (Qi) ?_
  refine oV (xI V.n5 (by exact bG hR dM)) ?_
  refine oV (bp V.wu rfl) ?_
  refine oV (fN (c := (aQ)) 1 V.jU rfl (by exact bG hR dM) (by omega) (by omega) rfl rfl) ?_
  refine (Qn) ?_
  refine (Q0) ?_
  refine (Qq) ?_
  refine (Q8) ?_
  refine (Q0) ?_
  refine (Qq) ?_
  refine rO TT 17 rfl ?_
  refine oV (dP (r := ((aQ.g es (i : Int)).d.length : Int) / 16777216) rfl rfl (by decide) (af.lA (k := 24) (by decide) rfl)) ?_
  refine (wU) ?_
  refine (Q6) ?_
  refine oV (dP (r := ((aQ.g es (i : Int)).d.length : Int) / 65536) rfl rfl (by decide) (af.lA (k := 16) (by decide) rfl)) ?_
  refine (wU) ?_
  refine (Q6) ?_
  refine oV (dP (r := ((aQ.g es (i : Int)).d.length : Int) / 256) rfl rfl (by decide) (af.lA (k := 8) (by decide) rfl)) ?_
  refine (wU) ?_
  refine (Q6) ?_
  refine (wU) ?_
  refine cM (U5) [((aQ.g es (i : Int)).d.length : Int) / 16777216 % 256, ((aQ.g es (i : Int)).d.length : Int) / 65536 % 256, ((aQ.g es (i : Int)).d.length : Int) / 256 % 256, ((aQ.g es (i : Int)).d.length : Int) % 256] V.bK V.z5 rfl rfl rfl rfl rfl rfl ?_
  intro b53
  refine (Fm) ?_
  intro p54 c54
  refine (Q8) ?_
  refine jf [pz 0 [] [4], pz 0 [] [0], pz 0 [] [6], pz 6 [1, 2] [], pz 14 [3] [], pz 30 [4] [], pz 63 [0, 5] [], pz 0 [] [0], pz 0 [] [6], pz 384 [7, 8] [], pz 896 [9] [], pz 1920 [10] [], pz 4095 [6, 11] [], pz 8191 [12] []] [⟨fun y => Row U5 p54 ((aa.aU ((es.map Ce.ch).take i)).length + 4) c54 ((aa.aU ((es.map Ce.ch).take i)) ++ [((aQ.g es (i : Int)).d.length : Int) / 16777216 % 256, ((aQ.g es (i : Int)).d.length : Int) / 65536 % 256, ((aQ.g es (i : Int)).d.length : Int) / 256 % 256, ((aQ.g es (i : Int)).d.length : Int) % 256]), none, some 6, []⟩, ⟨fun y => Row U5 (some ⟨b53, 0, none⟩) 4 4 [((aQ.g es (i : Int)).d.length : Int) / 16777216 % 256, ((aQ.g es (i : Int)).d.length : Int) / 65536 % 256, ((aQ.g es (i : Int)).d.length : Int) / 256 % 256, ((aQ.g es (i : Int)).d.length : Int) % 256], none, none, []⟩, ⟨fun y => R, none, none, [3, 5, 9, 11]⟩, ⟨fun y => D, none, none, [12]⟩, ⟨fun y => Row (U5) (ea (y 6)) (((aa.aU ((es.map Ce.ch).take i)).length + 4) + ((aQ.g es (i : Int)).k).length) (fC (y 6)) (((aa.aU ((es.map Ce.ch).take i)) ++ [((aQ.g es (i : Int)).d.length : Int) / 16777216 % 256, ((aQ.g es (i : Int)).d.length : Int) / 65536 % 256, ((aQ.g es (i : Int)).d.length : Int) / 256 % 256, ((aQ.g es (i : Int)).d.length : Int) % 256]) ++ ((aQ.g es (i : Int)).k)), some 6, some 12, []⟩, ⟨fun y => Row (U5) (ea (y 12)) ((((aa.aU ((es.map Ce.ch).take i)).length + 4) + ((aQ.g es (i : Int)).k).length) + (aQ.g es (i : Int)).d.length) (fC (y 12)) ((((aa.aU ((es.map Ce.ch).take i)) ++ [((aQ.g es (i : Int)).d.length : Int) / 16777216 % 256, ((aQ.g es (i : Int)).d.length : Int) / 65536 % 256, ((aQ.g es (i : Int)).d.length : Int) / 256 % 256, ((aQ.g es (i : Int)).d.length : Int) % 256]) ++ ((aQ.g es (i : Int)).k)) ++ (aQ.g es (i : Int)).d), some 12, none, []⟩] F V.mixed (by kernel_rfl) rfl (fun _ => .refl _) (aP _ (aP _ (aP _ (aP _ (cK _ rfl (by intro y y2 h; simp only [h 6 (.inl rfl)]) (cK _ rfl (by intro y y2 h; simp only [h 12 (.inl rfl)]) eV)))))) ?_
  iterate 3 refine nM ?_
  refine (Np) ?_
  refine nG V.s8 ?_
  refine (We) ?_
  refine eK (fun y v => .slice (ea v) (((aa.aU ((es.map Ce.ch).take i)).length + 4) + ((aQ.g es (i : Int)).k).length) (fC v)) (fun y v => True) _ _ (fun y v => [Row (U5) (ea v) (((aa.aU ((es.map Ce.ch).take i)).length + 4) + ((aQ.g es (i : Int)).k).length) (fC v) (((aa.aU ((es.map Ce.ch).take i)) ++ [((aQ.g es (i : Int)).d.length : Int) / 16777216 % 256, ((aQ.g es (i : Int)).d.length : Int) / 65536 % 256, ((aQ.g es (i : Int)).d.length : Int) / 256 % 256, ((aQ.g es (i : Int)).d.length : Int) % 256]) ++ ((aQ.g es (i : Int)).k))]) _ (fun y => rfl) (fun y => rfl) (fun y => rfl) (fun y => rfl) (fun y FF hA => qO (Bz (T := 5) V.bK Tryz.underlying9 V.z5 rfl rfl rfl (aa.bo hxk) dg (by omega)) (.refl _)) (by intros; rfl) (by intros; rfl) (by intros; rfl) (by intro y y2 h; simp only [h 6 (.inl rfl)]) (by intro y y2 h; rfl) ?_
  iterate 2 refine nM ?_
  refine (Np) ?_
  refine nG V.wu ?_
  refine (Zy) ?_
  refine eK (fun y v => .slice (ea v) ((((aa.aU ((es.map Ce.ch).take i)).length + 4) + ((aQ.g es (i : Int)).k).length) + (aQ.g es (i : Int)).d.length) (fC v)) (fun y v => True) _ _ (fun y v => [Row (U5) (ea v) ((((aa.aU ((es.map Ce.ch).take i)).length + 4) + ((aQ.g es (i : Int)).k).length) + (aQ.g es (i : Int)).d.length) (fC v) ((((aa.aU ((es.map Ce.ch).take i)) ++ [((aQ.g es (i : Int)).d.length : Int) / 16777216 % 256, ((aQ.g es (i : Int)).d.length : Int) / 65536 % 256, ((aQ.g es (i : Int)).d.length : Int) / 256 % 256, ((aQ.g es (i : Int)).d.length : Int) % 256]) ++ ((aQ.g es (i : Int)).k)) ++ (aQ.g es (i : Int)).d)]) _ (fun y => rfl) (fun y => rfl) (fun y => rfl) (fun y => rfl) (fun y FF hA => qO (mS (c := (U5)) V.bK V.z5 rfl rfl rfl rfl dg ⟨D, by exact dM, fun h hh => hD _ hxm _ h hh⟩ (by omega)) (.refl _)) (by intros; rfl) (by intros; rfl) (by intros; rfl) (by intro y y2 h; simp only [h 6 (.inr (by decide)), h 12 (.inl rfl)]) (by intro y y2 h; rfl) ?_
  refine ei _ (fun y => rfl) rfl rfl rfl (fun y hA L => dE (iO rfl) ⟨rfl, rfl⟩) (by intros; rfl) (by intro y y2 h; simp only [h 12 (.inr (by decide))]) ?_
  refine (Qb) ?_
  intro y hA
  clear hA
  refine bg<|bD _ (.cons (d := 0) rfl (.cons (d := 4) rfl (.cons (d := 5) rfl (.cons (d := 6) rfl (.nil _)))))<|bb (M := Row U5 (some ⟨b53, 0, none⟩) 4 4 [((aQ.g es (i : Int)).d.length : Int) / 16777216 % 256, ((aQ.g es (i : Int)).d.length : Int) / 65536 % 256, ((aQ.g es (i : Int)).d.length : Int) / 256 % 256, ((aQ.g es (i : Int)).d.length : Int) % 256] :: R :: D :: Row (U5) (ea (y 12)) ((((aa.aU ((es.map Ce.ch).take i)).length + 4) + ((aQ.g es (i : Int)).k).length) + (aQ.g es (i : Int)).d.length) (fC (y 12)) ((((aa.aU ((es.map Ce.ch).take i)) ++ [((aQ.g es (i : Int)).d.length : Int) / 16777216 % 256, ((aQ.g es (i : Int)).d.length : Int) / 65536 % 256, ((aQ.g es (i : Int)).d.length : Int) / 256 % 256, ((aQ.g es (i : Int)).d.length : Int) % 256]) ++ ((aQ.g es (i : Int)).k)) ++ (aQ.g es (i : Int)).d) :: F) (fun _ _ h => h)<|bb (sub .nil (.skip (.keep (.keep (.keep .refl))))) ?_
  simp only [List.nil_append]
  generalize (ea (y 6)) = p61
  generalize (fC (y 6)) = c61
  generalize (ea (y 12)) = p67
  generalize (fC (y 12)) = c67
  refine (Q9) ?_
  refine wN [pz 0 [] [0], pz 0 [] [6], pz 3 [0, 1] [], pz 7 [2] [], pz 15 [3] [], pz 0 [] [0], pz 0 [] [6], pz 96 [5, 6] [], pz 224 [7] [], pz 480 [8] [], pz 1023 [4, 9] [], pz 2047 [10] []] [⟨fun y => R, none, none, [2, 4, 7, 9]⟩, ⟨fun y => D, none, none, [10]⟩, ⟨fun y => Row U5 p67 ((aa.aU ((es.map Ce.ch).take i)).length + 4 + (aQ.g es (i : Int)).k.length + (aQ.g es (i : Int)).d.length) c67 ((aa.aU ((es.map Ce.ch).take i)) ++ [((aQ.g es (i : Int)).d.length : Int) / 16777216 % 256, ((aQ.g es (i : Int)).d.length : Int) / 65536 % 256, ((aQ.g es (i : Int)).d.length : Int) / 256 % 256, ((aQ.g es (i : Int)).d.length : Int) % 256] ++ (aQ.g es (i : Int)).k ++ (aQ.g es (i : Int)).d), none, none, []⟩] F V.mixed ?_
  iterate 2 refine nM ?_
  refine (Np) ?_
  refine nG V.s8 ?_
  refine (We) ?_
  iterate 2 refine nM ?_
  refine nR (fun y FF hA => xI V.n5 (by exact bG hR aA)) ?_
  refine nG V.wu ?_
  refine nR (fun y FF hA => fN (c := (aQ)) 1 V.jU rfl (by exact bG hR aA) (by omega) (by omega) rfl rfl) ?_
  refine nE (fun y FF hA => aX (Post := [D]) (Gh (aQ.g es (i : Int)).k hxk (by omega) (aQ.g es (i : Int)).p (aQ.g es (i : Int)).c (aQ.g es (i : Int)).d.length (aQ.g es (i : Int)).d D (hD _ hxm) rfl (by omega) hxB) V.Zr rfl (aq .nil) (fun v G h => by rcases h with ⟨rfl, rfl⟩; exact ⟨rfl, .refl _⟩)) ?_
  refine nA ?_
  refine cN ?_
  intro y hA
  clear hA
  refine bg<|bD _ (.cons (d := 0) rfl (.cons (d := 4) rfl (.cons (d := 5) rfl (.cons (d := 6) rfl (.cons (d := 8) rfl (.nil _))))))<|bb (M := R :: D :: Row U5 p67 ((aa.aU ((es.map Ce.ch).take i)).length + 4 + (aQ.g es (i : Int)).k.length + (aQ.g es (i : Int)).d.length) c67 ((aa.aU ((es.map Ce.ch).take i)) ++ [((aQ.g es (i : Int)).d.length : Int) / 16777216 % 256, ((aQ.g es (i : Int)).d.length : Int) / 65536 % 256, ((aQ.g es (i : Int)).d.length : Int) / 256 % 256, ((aQ.g es (i : Int)).d.length : Int) % 256] ++ (aQ.g es (i : Int)).k ++ (aQ.g es (i : Int)).d) :: F) (fun _ _ h => h)<|(Q4) ?_
  refine oV (dP (r := (aa.gj (aQ.g es (i : Int)).k (aQ.g es (i : Int)).d) / 16777216) rfl rfl (by decide) (aa.lH (n := 24) rfl (by decide) rfl))<|(vL)<|(Q6) ?_
  refine oV (dP (r := (aa.gj (aQ.g es (i : Int)).k (aQ.g es (i : Int)).d) / 65536) rfl rfl (by decide) (aa.lH (n := 16) rfl (by decide) rfl))<|(vL)<|(Q6) ?_
  refine oV (dP (r := (aa.gj (aQ.g es (i : Int)).k (aQ.g es (i : Int)).d) / 256) rfl rfl (by decide) (aa.lH (n := 8) rfl (by decide) rfl))<|(vL)<|(Q6)<|(vL) ?_
  refine cM (U5) [(aa.gj (aQ.g es (i : Int)).k (aQ.g es (i : Int)).d) / 16777216 % 256, (aa.gj (aQ.g es (i : Int)).k (aQ.g es (i : Int)).d) / 65536 % 256, (aa.gj (aQ.g es (i : Int)).k (aQ.g es (i : Int)).d) / 256 % 256, (aa.gj (aQ.g es (i : Int)).k (aQ.g es (i : Int)).d) % 256] V.bK V.z5 rfl rfl rfl rfl rfl rfl ?_
  intro zw
  refine (Wy) ?_
  intro p92 c92
  refine (tG) ?_
  have hfin := aa.NZ (J := (aa.aU ((es.map Ce.ch).take i))) (k := (aQ.g es (i : Int)).k) (d := (aQ.g es (i : Int)).d) (n := ((aQ.g es (i : Int)).d.length : Int)) (s := (aa.gj (aQ.g es (i : Int)).k (aQ.g es (i : Int)).d)) rfl rfl
  rw [show (aa.Ch.mk (aQ.g es (i : Int)).k (aQ.g es (i : Int)).d) = (aQ.g es (i : Int)).ch from rfl, ← hjs] at hfin
  rw [hfin, show (aa.aU ((es.map Ce.ch).take i)).length + 4 + (aQ.g es (i : Int)).k.length + (aQ.g es (i : Int)).d.length + 4 = (aa.aU ((es.map Ce.ch).take (i + 1))).length from by omega]
  exact j3 (i + 1) _ _ ⟨by omega, by omega⟩ (eQ ln) (sub (aq (.cons ay (.cons ay .nil))) bC)
 ·refine (Qp) ?_
  obtain rfl : i = es.length := by omega
  rw [show (es.map Ce.ch).take es.length = (es.map Ce.ch) from List.take_of_length_le (by rw [List.length_map]; exact Nat.le_refl _)]
  refine (Qg)<|(Q0)<|(Qq)<|(QP) ?_
  exact ag (eC rfl rfl) ⟨_, _, rfl, rfl⟩ (sub (fQ .nil) ao)
theorem SC (p : Option Addr) (c : Nat) (es : List Ce) (R : ab) (hR : ∀ w0 h, R w0 h → aE aQ p es.length es w0 h) (hel : es.length ≤ 262144) (hok : ∀ x ∈ es, aa.js x.ch) (hj : (aa.aU (es.map Ce.ch)).length ≤ 262144) : aC Tryz.prog 28 [.slice p es.length c] [R, DK es] (aG fun v G => ∃ q cq, v = .tuple #[.slice q (aa.aU (es.map Ce.ch)).length cq, .int .i64 0] ∧ G = [Row U5 q (aa.aU (es.map Ce.ch)).length cq (aa.aU (es.map Ce.ch)), R, DK es]) := zG p c es R hR (DK es) (fun x hx w0 h hh => (hh x hx).rd) hel hok hj
end Go.Proofs.YtmaiakpjgomnpaaGreat
namespace Go.Proofs.YtmaiakpjgomnpaaGreat
open Go.Sl
theorem V.Vb : aB Tryz.prog 23 = true := by kernel_rfl
theorem V.IN : aB Tryz.prog 27 = true := by kernel_rfl
theorem V.UZ : aB Tryz.prog 28 = true := by kernel_rfl
theorem V.Wr : jt Tryz.prog 62 = true := by kernel_rfl
end Go.Proofs.YtmaiakpjgomnpaaGreat
