/- Walks of functions that the law reaches, and what they lean on; no conditions. -/
import Derived.Test.YtmaiakpjgomnpaaGreatM0
import Derived.Test.YtmaiakpjgomnpaaGreatM4
import Derived.Test.YtmaiakpjgomnpaaGreatM2
import Derived.Test.YtmaiakpjgomnpaaGreatM1
import Derived.KernelRfl
import Derived.Test.YtmaiakpjgomnpaaGreatM3
set_option linter.unusedVariables false
set_option linter.unusedSimpArgs false
set_option maxRecDepth 100000
namespace Go.Proofs.YtmaiakpjgomnpaaGreat
open Go.Sl 
theorem mm (p : Option Addr) (n cap : Nat) (fv : Value) (P A B C Z : List Int) (a b k0 : Int) (ha : a = P.length) (hbb : b = (P.length + A.length + B.length : Nat)) (hk0 : k0 = A.length) (hC : C.length = A.length) (hn : P.length + A.length + B.length + A.length + Z.length = n) (hn2 : n ≤ 1000000) : aC Tryz.prog 256 [.slice p n cap, .int .i64 a, .int .i64 b, .int .i64 k0, fv] [Row I3 p n cap (P ++ A ++ B ++ C ++ Z)] (aG fun v G => v = .tuple #[] ∧ G = [Row I3 p n cap (P ++ C ++ B ++ A ++ Z)]) := by
 refine au [(0, _), (1, _), (2, _), (3, _), (4, _)] Tryz.func256 rfl Tryz.ntmps256 rfl rfl ?_
 intro w0 F
 refine (QV) ?_
 rw [show P ++ A ++ B ++ C ++ Z = P ++ (C.take 0 ++ A.drop 0) ++ B ++ (A.take 0 ++ C.drop 0) ++ Z by simp]
 refine cB (fun (k : Nat) => [(0, .slice p n cap), (1, .int .i64 a), (2, .int .i64 b), (3, .int .i64 k0), (10, .int .i64 (k : Int))]) (fun (k : Nat) => Row I3 p n cap (P ++ (C.take k ++ A.drop k) ++ B ++ (A.take k ++ C.drop k) ++ Z) :: F) (fun (k : Nat) => k ≤ A.length) (fun (k : Nat) => A.length - k) (i1 (0) ?_ (bN ln) (sub (aq .nil) ao)) ?_
 ·exact Nat.zero_le _
 intro k
 rintro hk
 refine (oM) ?_
 refine aF rfl (fun h13 => ?_) (fun h13 => ?_)
 ·refine (Q5) ?_
  refine wN [pz 0 [] [0], pz 0 [] [1], pz 0 [] [10], pz 6 [1, 2] [], pz 0 [] [0], pz 0 [] [2], pz 0 [] [10], pz 96 [5, 6] [], pz 0 [] [0], pz 0 [] [2], pz 0 [] [10], pz 1536 [9, 10] [], pz 3840 [8, 11] [], pz 7936 [12] [], pz 0 [] [0], pz 0 [] [1], pz 0 [] [10], pz 98304 [15, 16] [], pz 245760 [14, 17] [], pz 507904 [18] [], pz 1048335 [0, 3] [], pz 2096911 [20, 13] [], pz 4194303 [4, 7] [], pz 8388607 [22, 19] []] [⟨fun y => Row I3 p n cap (P ++ (C.take k ++ A.drop k) ++ B ++ (A.take k ++ C.drop k) ++ Z), none, some 21, [12, 13, 18, 19, 20]⟩, ⟨fun y => Row I3 p n cap ((P ++ (C.take k ++ A.drop k) ++ B ++ (A.take k ++ C.drop k) ++ Z).set (a + (k : Int)).toNat ((I3).g (P ++ (C.take k ++ A.drop k) ++ B ++ (A.take k ++ C.drop k) ++ Z) (b + (k : Int)))), some 21, some 23, [22]⟩, ⟨fun y => Row I3 p n cap (((P ++ (C.take k ++ A.drop k) ++ B ++ (A.take k ++ C.drop k) ++ Z).set (a + (k : Int)).toNat ((I3).g (P ++ (C.take k ++ A.drop k) ++ B ++ (A.take k ++ C.drop k) ++ Z) (b + (k : Int)))).set (b + (k : Int)).toNat ((I3).g (P ++ (C.take k ++ A.drop k) ++ B ++ (A.take k ++ C.drop k) ++ Z) (a + (k : Int)))), some 23, none, []⟩] F V.mixed ?_
  iterate 3 refine nM ?_
  refine (Qy) ?_
  iterate 3 refine nM ?_
  refine (Qy) ?_
  iterate 3 refine nM ?_
  refine nV (fun y hA L => eb rfl rfl wI) ?_
  refine nR (fun y FF hA => xI V.cA (own aA)) ?_
  refine nR (fun y FF hA => xL V.s3 (own aA)) ?_
  iterate 3 refine nM ?_
  refine (Qy) ?_
  refine (l8) ?_
  refine (wT) ?_
  refine (l8) ?_
  refine (vj) ?_
  refine (l8) ?_
  refine (vj) ?_
  refine (Qb) ?_
  intro y hA
  clear hA
  show kC _ _ _ _ (Row I3 p n cap (((P ++ (C.take k ++ A.drop k) ++ B ++ (A.take k ++ C.drop k) ++ Z).set (a + (k : Int)).toNat ((I3).g (P ++ (C.take k ++ A.drop k) ++ B ++ (A.take k ++ C.drop k) ++ Z) (b + (k : Int)))).set (b + (k : Int)).toNat ((I3).g (P ++ (C.take k ++ A.drop k) ++ B ++ (A.take k ++ C.drop k) ++ Z) (a + (k : Int)))) :: F)
  refine jD<|bg<|(Qo)<|(Q6) ?_
  refine oV (eb rfl rfl wI)<|(rq) ?_
  refine df ?_
  have e1 : (a + (k : Int)).toNat = P.length + k := by omega
  have e2 : (b + (k : Int)).toNat = P.length + A.length + B.length + k := by omega
  simp only [Ec.g, e1, e2]
  rw [cg.zp (by omega) hC]
  refine j1 (k + 1) ?_ (bN ln) (sub (aq .nil) ao)
  exact ⟨by omega, by omega⟩
 ·refine (Q5) ?_
  have hke : k = A.length := by omega
  subst hke
  rw [show P ++ (C.take A.length ++ A.drop A.length) ++ B ++ (A.take A.length ++ C.drop A.length) ++ Z = P ++ C ++ B ++ A ++ Z by rw [List.drop_length, List.take_length, ← hC, List.take_length, List.drop_length]; simp]
  exact gv ez ⟨rfl, rfl⟩ (sub (aq .nil) ao)
theorem FE (p : Option Addr) (n cap : Nat) (fv : Value) (P X Y Z : List Int) (a m b : Int) (ha : a = P.length) (hm : m = (P.length + X.length : Nat)) (hbb : b = (P.length + X.length + Y.length : Nat)) (hX : 0 < X.length) (hY : 0 < Y.length) (hn : P.length + X.length + Y.length + Z.length = n) (hn2 : n ≤ 1000000) : aC Tryz.prog 253 [.slice p n cap, .int .i64 a, .int .i64 m, .int .i64 b, fv] [Row I3 p n cap (P ++ X ++ Y ++ Z)] (aG fun v G => v = .tuple #[] ∧ G = [Row I3 p n cap (P ++ Y ++ X ++ Z)]) := by
 refine au [(0, _), (1, _), (2, _), (3, _), (4, _)] Tryz.func253 rfl Tryz.ntmps253 rfl rfl ?_
 intro w0 F
 refine ED TT 18 rfl (by omega) ?_
 rw [show m - a = (X.length : Int) by omega, show b - m = (Y.length : Int) by omega]
 refine zI (fun (P2 : List Int) (X2 : List Int) (Y2 : List Int) (Z2 : List Int) => [(0, .slice p n cap), (2, .int .i64 m), (4, fv), (10, .int .i64 (X2.length : Int)), (11, .int .i64 (Y2.length : Int))]) (fun (P2 : List Int) (X2 : List Int) (Y2 : List Int) (Z2 : List Int) => Row I3 p n cap (P2 ++ X2 ++ Y2 ++ Z2) :: F) (fun (P2 : List Int) (X2 : List Int) (Y2 : List Int) (Z2 : List Int) => P2 ++ Y2 ++ X2 ++ Z2 = P ++ Y ++ X ++ Z ∧ m = (P2.length + X2.length : Nat) ∧ 0 < X2.length ∧ 0 < Y2.length ∧ P2.length + X2.length + Y2.length + Z2.length = n) (fun (P2 : List Int) (X2 : List Int) (Y2 : List Int) (Z2 : List Int) => X2.length + Y2.length) (i4 (P) (X) (Y) (Z) ?_ (bN ln) (sub (aq .nil) ao)) ?_
 ·exact ⟨rfl, hm, hX, hY, hn⟩
 intro P2 X2 Y2 Z2
 rintro ⟨hT, hm2, hX2, hY2, hn3⟩
 refine (oM) ?_
 refine aF rfl (fun h20 => ?_) (fun h20 => ?_)
 ·refine (QB) ?_
  refine aF rfl (fun h23 => ?_) (fun h23 => ?_)
  ·refine (Q9) ?_
   obtain ⟨A, B, hX2, hA⟩ : ∃ A B, X2 = A ++ B ∧ A.length = Y2.length := ⟨X2.take Y2.length, X2.drop Y2.length, by simp, by simp; omega⟩
   subst hX2
   rw [← List.append_assoc P2 A B]
   refine (vT) ?_
   refine aj (mm p n cap _ P2 A B Y2 Z2 _ _ _ (by omega) (by (simp only [List.length_append, List.length_nil] at *; omega)) (by omega) (by omega) (by (simp only [List.length_append, List.length_nil] at *; omega)) hn2) V.Ge  rfl (aq .nil) rfl ?_
   rintro _ _ ⟨rfl, rfl⟩
   refine (tG) ?_
   (rw [show (((A ++ B).length : Nat) : Int) - (Y2.length : Int) = (B.length : Int) by simp only [List.length_append]; omega, show (Y2.length : Int) = (A.length : Int) by omega]; simp only [List.length_append] at *; exact j4 (y0 := P2 ++ Y2) (y1 := B) (y2 := A) (y3 := Z2) ⟨⟨by rw [← hT]; simp, by simp only [List.length_append]; omega, by omega, by omega, by simp only [List.length_append]; omega⟩, by omega⟩ (bN ln) (sub (aq .nil) ao))
  ·refine (Q9) ?_
   obtain ⟨B, C2, hY2, hC2⟩ : ∃ B C2, Y2 = B ++ C2 ∧ C2.length = X2.length := ⟨Y2.take (Y2.length - X2.length), Y2.drop (Y2.length - X2.length), by simp, by simp; omega⟩
   subst hY2
   rw [← List.append_assoc (P2 ++ X2) B C2]
   refine (DV) ?_
   refine aj (mm p n cap _ P2 X2 B C2 Z2 _ _ _ (by omega) (by (simp only [List.length_append, List.length_nil] at *; omega)) (by omega) (by omega) (by (simp only [List.length_append, List.length_nil] at *; omega)) hn2) V.Ge  rfl (aq .nil) rfl ?_
   rintro _ _ ⟨rfl, rfl⟩
   refine (tG) ?_
   (rw [show (((B ++ C2).length : Nat) : Int) - (X2.length : Int) = (B.length : Int) by simp only [List.length_append]; omega, show (X2.length : Int) = (C2.length : Int) by omega, List.append_assoc (P2 ++ C2 ++ B) X2 Z2]; simp only [List.length_append] at *; exact j4 (y0 := P2) (y1 := C2) (y2 := B) (y3 := X2 ++ Z2) ⟨⟨by rw [← hT]; simp, by omega, by omega, by omega, by simp only [List.length_append]; omega⟩, by omega⟩ (bN ln) (sub (aq .nil) ao))
 ·refine (Qg) ?_
  rw [show P2 ++ X2 ++ Y2 ++ Z2 = P2 ++ X2 ++ [] ++ Y2 ++ Z2 by simp]
  refine (vT) ?_
  refine aj (mm p n cap _ P2 X2 [] Y2 Z2 _ _ _ (by omega) (by omega) (by omega) (by omega) (by (simp only [List.length_append, List.length_nil] at *; omega)) hn2) V.Ge  rfl (aq .nil) rfl ?_
  rintro _ _ ⟨rfl, rfl⟩
  refine df ?_
  rw [show P2 ++ Y2 ++ [] ++ X2 ++ Z2 = P ++ Y ++ X ++ Z by rw [List.append_nil]; exact hT]
  exact gv ez ⟨rfl, rfl⟩ (sub (aq .nil) ao)
set_option maxHeartbeats 4000000 in
theorem qp (p : Option Addr) (n cap : Nat) (cf : Nat) (fs cs : List Value) (S : ab) (key : Int → Int) (Pd : Int → Prop) (hb : aB Tryz.prog cf = true) (hf : ∀ x y, Pd x → Pd y → aC Tryz.prog cf (fs ++ [.int .i64 x, .int .i64 y] ++ cs) [S] (aG fun v G => v = .int .i64 (lC (key x) (key y)) ∧ G = [S])) (l : List Int) (aI bI : Int) (a b : Nat) (ha : aI = a) (hbI : bI = b) (hab : a ≤ b) (hbn : b ≤ n) (hn2 : n ≤ 1000000) (hpd : ∀ i, i < n → Pd (l.getD i I3.d)) : aC Tryz.prog 245 [.slice p n cap, .int .i64 aI, .int .i64 bI, .func (.func cf) fs.toArray cs.toArray] [Row I3 p n cap (l), S] (aG fun v G => v = .tuple #[] ∧ ∃ l2, cg.Rl key I3.d l l2 a b ∧ cg.Sd key I3.d l2 a b ∧ G = [Row I3 p n cap (l2), S]) := by
 refine au [(0, _), (1, _), (2, _), (3, _)] Tryz.func245 rfl Tryz.ntmps245 rfl rfl ?_
 intro w0 F
 refine Ig (own aA) (fun hlen => ?_)
 refine ED TT 8 rfl (by omega) ?_
 rw [show aI + 1 = ((a + 1 : Nat) : Int) by omega]
 refine gl (fun (i : Nat) (l1 : List Int) => [(0, .slice p n cap), (1, .int .i64 aI), (2, .int .i64 bI), (3, .func (.func cf) fs.toArray cs.toArray), (8, .int .i64 (i : Int))]) (fun (i : Nat) (l1 : List Int) => Row I3 p n cap (l1) :: S :: F) (fun (i : Nat) (l1 : List Int) => a + 1 ≤ i ∧ (i ≤ b ∨ i = a + 1) ∧ cg.Rl key I3.d l l1 a b ∧ cg.Sd key I3.d l1 a i) (fun (i : Nat) (l1 : List Int) => b - i) (i2 (a + 1) (_) ?_ (bN ln) (sub (aT .nil) ao)) ?_
 ·exact ⟨Nat.le_refl _, .inr rfl, cg.Rl.refl _ _ _, cg.Sd.small (Nat.le_refl _)⟩
 intro i l1
 rintro ⟨hi1, hi2, hR1, hS1⟩
 refine (oM) ?_
 refine aF rfl (fun h14 => ?_) (fun h14 => ?_)
 ·refine (nS) ?_
  refine gl (fun (j : Nat) (l2 : List Int) => [(0, .slice p n cap), (1, .int .i64 aI), (2, .int .i64 bI), (3, .func (.func cf) fs.toArray cs.toArray), (8, .int .i64 (i : Int)), (9, .int .i64 (j : Int))]) (fun (j : Nat) (l2 : List Int) => Row I3 p n cap (l2) :: S :: F) (fun (j : Nat) (l2 : List Int) => a ≤ j ∧ j ≤ i ∧ cg.Rl key I3.d l l2 a b ∧ cg.Ins key I3.d l2 a j i) (fun (j : Nat) (l2 : List Int) => j) (i2 (i) (_) ?_ (jy (bN ln)) (sub (aT .nil) ao)) ?_
  ·exact ⟨by omega, Nat.le_refl _, hR1, cg.Ins.start hS1⟩
  intro j l2
  rintro ⟨hj1, hj2, hR2, hI2⟩
  refine rL TT 2 rfl ?_
  have hpd2 := hR2.pd (Pd := Pd) hbn hpd
  have hlen2 := hR2.len
  by_cases h20 : aI < (j : Int)
  ·refine wN [pz 0 [] [9], pz 0 [] [1], pz 3 [0, 1] [], pz 7 [2] [], pz 15 [3] [3], pz 15 [3] [0], pz 15 [3] [9], pz 111 [5, 6, 3] [], pz 239 [7, 3] [], pz 15 [3] [0], pz 15 [3] [9], pz 1039 [10, 3] [], pz 3599 [9, 11, 3] [], pz 7695 [12, 3] [], pz 16383 [4, 8, 13, 3] [], pz 32767 [14, 3] [], pz 65535 [3, 15] []] [⟨fun y => Row I3 p n cap (l2), none, none, [7, 8, 12, 13]⟩, ⟨fun y => S, none, some 14, []⟩, ⟨fun y => S, some 14, none, []⟩] F V.mixed ?_
   iterate 2 refine nM ?_
   refine nV (fun y hA L => cJ (ed rfl rfl) h20) ?_
   refine nM ?_
   refine (Ej) ?_
   refine (Ej) ?_
   refine (Ej) ?_
   refine (WI) ?_
   refine (WU) ?_
   refine (Ej) ?_
   refine (Ej) ?_
   refine (WJ) ?_
   refine (WI) ?_
   refine (WU) ?_
   refine nE (fun y FF hA => gL rfl (kr (fs := fs) (cs := cs) (Post := [S]) (hf (I3.g l2 (j : Int)) (I3.g l2 ((j : Int) - 1)) (gP (k := j) (by omega) (hpd2 _ (by omega))) (gP (k := j - 1) (by omega) (hpd2 _ (by omega)))) hb rfl rfl (aq .nil) (fun v G h => by rcases h with ⟨rfl, rfl⟩; exact ⟨rfl, .refl _⟩))) ?_
   refine (UW) ?_
   refine nV (fun y hA L => ni rfl rfl) ?_
   refine (Qb) ?_
   intro y hA
   clear hA
   refine bg<|(U0) ?_
   refine bb (M := Row I3 p n cap (l2) :: S :: F) (fun _ _ h => h) ?_
   refine aF rfl (fun h34 => ?_) (fun h34 => ?_)
   ·refine (Q5) ?_
    refine wN [pz 0 [] [0], pz 0 [] [9], pz 0 [] [0], pz 0 [] [9], pz 8 [3] [], pz 0 [] [0], pz 0 [] [9], pz 64 [6] [], pz 224 [5, 7] [], pz 480 [8] [], pz 0 [] [0], pz 0 [] [9], pz 3072 [10, 11] [], pz 7168 [12] [], pz 16355 [0, 1] [], pz 32739 [14, 9] [], pz 65535 [2, 4] [], pz 131071 [16, 13] []] [⟨fun y => Row I3 p n cap (l2), none, some 15, [8, 9, 12, 13, 14]⟩, ⟨fun y => S, none, none, []⟩, ⟨fun y => Row I3 p n cap ((l2).set (j : Int).toNat ((I3).g (l2) ((j : Int) - 1))), some 15, some 17, [16]⟩, ⟨fun y => Row I3 p n cap (((l2).set (j : Int).toNat ((I3).g (l2) ((j : Int) - 1))).set ((j : Int) - 1).toNat ((I3).g (l2) (j : Int))), some 17, none, []⟩] F V.mixed ?_
    iterate 4 refine nM ?_
    refine (vF) ?_
    iterate 2 refine nM ?_
    refine nV (fun y hA L => jX rfl rfl wI) ?_
    refine nR (fun y FF hA => xI V.cA (own aA)) ?_
    refine nR (fun y FF hA => xL V.s3 (own aA)) ?_
    iterate 2 refine nM ?_
    refine (l8) ?_
    refine (wT) ?_
    refine (l8) ?_
    refine (vj) ?_
    refine (l8) ?_
    refine (vj) ?_
    refine (Qb) ?_
    intro y hA
    clear hA
    show kC _ _ _ _ (S :: Row I3 p n cap (((l2).set (j : Int).toNat ((I3).g (l2) ((j : Int) - 1))).set ((j : Int) - 1).toNat ((I3).g (l2) (j : Int))) :: F)
    refine jD<|bg<|(Qo)<|(Q6) ?_
    refine oV (jX rfl rfl wI)<|(rq) ?_
    refine df ?_
    have hlt := ju.1 h34
    rw [gE j (by omega), gE (j - 1) (by omega)] at hlt
    have e1 : ((j : Int) - 1).toNat = j - 1 := by omega
    have e0 : (j : Int).toNat = j := by omega
    simp only [Ec.g, e1, e0]
    rw [show (j : Int) - 1 = ((j - 1 : Nat) : Int) by omega]
    exact j2 (j - 1) _ ⟨⟨by omega, by omega, hR2.trans (cg.Rl.II (by omega) (by omega) (by omega) hlt), hI2.step (by omega) hj2 (by omega) hlt⟩, by omega⟩ (jy (bN ln)) (sub (.cons ay (aq .nil)) ao)
   ·exact jz TT 11 rfl (by omega)<|j2 (i + 1) _ ⟨⟨by omega, by omega, hR2, hI2.fin hj1 (.inr (by have h := Int.not_lt.1 (fun h => h34 (ju.2 h)); rw [gE (j - 1) (by omega), gE j (by omega)] at h; exact h))⟩, by omega⟩ (bN ln) (sub (aT .nil) ao)
  ·refine wN [pz 0 [] [9], pz 0 [] [1], pz 3 [0, 1] [], pz 7 [2] [], pz 15 [3] [3], pz 15 [3] [0], pz 15 [3] [9], pz 111 [5, 6, 3] [], pz 239 [7, 3] [], pz 15 [3] [0], pz 15 [3] [9], pz 1039 [10, 3] [], pz 3599 [9, 11, 3] [], pz 7695 [12, 3] [], pz 16383 [4, 8, 13, 3] [], pz 32767 [14, 3] [], pz 65535 [3, 15] []] [⟨fun y => Row I3 p n cap (l2), none, none, []⟩, ⟨fun y => S, none, none, []⟩] F V.mixed ?_
   iterate 2 refine nM ?_
   refine nV (fun y hA L => bR (ed rfl rfl) h20) ?_
   refine nM ?_
   refine (jA) ?_
   refine (jA) ?_
   refine (jA) ?_
   refine (jA) ?_
   refine (jA) ?_
   refine (jA) ?_
   refine (jA) ?_
   refine (jA) ?_
   refine (jA) ?_
   refine (jA) ?_
   refine (jA) ?_
   refine (jA) ?_
   refine nV (fun y hA L => um rfl rfl) ?_
   refine (Qb) ?_
   intro y hA
   clear hA
   refine bg<|(U0) ?_
   refine bb (M := Row I3 p n cap (l2) :: S :: F) (fun _ _ h => h)<|(DV) ?_
   exact j2 (i + 1) _ ⟨⟨by omega, by omega, hR2, hI2.fin hj1 (.inl (by omega))⟩, by omega⟩ (bN ln) (sub (aT .nil) ao)
 ·refine (Q5) ?_
  exact gv ez ⟨rfl, l1, hR1, hS1.sub (Nat.le_refl _) (by omega), rfl⟩ (sub (aT .nil) ao)
set_option maxHeartbeats 16000000 in
theorem Dp (p : Option Addr) (n cap : Nat) (cf : Nat) (fs cs : List Value) (S : ab) (key : Int → Int) (Pd : Int → Prop) (hb : aB Tryz.prog cf = true) (hf : ∀ x y, Pd x → Pd y → aC Tryz.prog cf (fs ++ [.int .i64 x, .int .i64 y] ++ cs) [S] (aG fun v G => v = .int .i64 (lC (key x) (key y)) ∧ G = [S])) (l : List Int) (a m b : Nat) (ham : a < m) (hmb : m < b) (hbn : b ≤ n) (hn2 : n ≤ 1000000) (hpd : ∀ i, i < n → Pd (l.getD i I3.d)) (h1 : cg.Sd key I3.d l a m) (h2 : cg.Sd key I3.d l m b) (ih : ∀ (l : List Int) (a2 m2 b2 : Nat), b2 - a2 < b - a → a2 < m2 → m2 < b2 → b2 ≤ n → (∀ i, i < n → Pd (l.getD i I3.d)) → cg.Sd key I3.d l a2 m2 → cg.Sd key I3.d l m2 b2 → aC Tryz.prog 246 [.slice p n cap, .int .i64 (a2 : Int), .int .i64 (m2 : Int), .int .i64 (b2 : Int), .func (.func cf) fs.toArray cs.toArray] [Row I3 p n cap (l), S] (aG fun v G => v = .tuple #[] ∧ ∃ l2, cg.Rl key I3.d l l2 a2 b2 ∧ cg.Sd key I3.d l2 a2 b2 ∧ G = [Row I3 p n cap (l2), S])) : aC Tryz.prog 246 [.slice p n cap, .int .i64 (a : Int), .int .i64 (m : Int), .int .i64 (b : Int), .func (.func cf) fs.toArray cs.toArray] [Row I3 p n cap (l), S] (aG fun v G => v = .tuple #[] ∧ ∃ l2, cg.Rl key I3.d l l2 a b ∧ cg.Sd key I3.d l2 a b ∧ G = [Row I3 p n cap (l2), S]) := by
 refine au [(0, _), (1, _), (2, _), (3, _), (4, _)] Tryz.func246 rfl Tryz.ntmps246 rfl rfl ?_
 intro w0 F
 refine Ig (own aA) (fun hlen => ?_)
 refine ED TT 9 rfl (by omega) ?_
 refine aF rfl (fun h28 => ?_) (fun h28 => ?_)
 ·refine rC TT 14 rfl ?_
  refine gl (fun (i : Nat) (j : Nat) => [(0, .slice p n cap), (1, .int .i64 (a : Int)), (4, .func (.func cf) fs.toArray cs.toArray), (10, .int .i64 (i : Int)), (11, .int .i64 (j : Int))]) (fun (i : Nat) (j : Nat) => Row I3 p n cap (l) :: S :: F) (fun (i : Nat) (j : Nat) => m ≤ i ∧ i ≤ j ∧ j ≤ b ∧ (∀ x, m ≤ x → x < i → key (l.getD x I3.d) < key (l.getD a I3.d)) ∧ (∀ x, j ≤ x → x < b → key (l.getD a I3.d) ≤ key (l.getD x I3.d))) (fun (i : Nat) (j : Nat) => j - i) (i2 (m) (b) ?_ (bN ln) (sub (aT .nil) ao)) ?_
  ·exact ⟨Nat.le_refl _, by omega, Nat.le_refl _, fun x x1 x2 => by omega, fun x x1 x2 => by omega⟩
  intro i j
  rintro ⟨hi1, hij, hj1, hlo, hhi⟩
  refine (oM) ?_
  refine aF rfl (fun h33 => ?_) (fun h33 => ?_)
  ·refine (vT)<|(Ed)<|(JE)<|(H2)<|(rq) ?_
   obtain ⟨h, hhh⟩ : ∃ h : Nat, h = (i + j) / 2 := ⟨_, rfl⟩
   rw [show ((i : Int) + (j : Int)) / 2 = ((h : Nat) : Int) by omega]
   refine (Qe) ?_
   refine wN [pz 0 [] [4], pz 0 [] [0], pz 0 [] [12], pz 6 [1, 2] [], pz 14 [3] [], pz 0 [] [0], pz 0 [] [1], pz 96 [5, 6] [], pz 224 [7] [], pz 511 [0, 4, 8] [], pz 1023 [9] []] [⟨fun y => Row I3 p n cap (l), none, none, [3, 4, 7, 8]⟩, ⟨fun y => S, none, some 9, []⟩, ⟨fun y => S, some 9, none, []⟩] F V.mixed ?_
   iterate 3 refine nM ?_
   refine nR (fun y FF hA => xI V.cA (own aA)) ?_
   refine nR (fun y FF hA => xL V.s3 (own aA)) ?_
   iterate 2 refine nM ?_
   refine nR (fun y FF hA => xI V.cA (own aA)) ?_
   refine nR (fun y FF hA => xL V.s3 (own aA)) ?_
   refine nE (fun y FF hA => kr (fs := fs) (cs := cs) (Post := [S]) (hf (I3.g l (h : Int)) (I3.g l (a : Int)) (gP (k := h) (by omega) (hpd _ (by omega))) (gP (k := a) (by omega) (hpd _ (by omega)))) hb rfl rfl (aq .nil) (fun v G h => by rcases h with ⟨rfl, rfl⟩; exact ⟨rfl, .refl _⟩)) ?_
   refine nV (fun y hA L => dW rfl rfl) ?_
   refine cN ?_
   intro y hA
   clear hA
   refine bg<|bD _ (.cons (d := 0) rfl (.cons (d := 1) rfl (.cons (d := 4) rfl (.cons (d := 10) rfl (.cons (d := 11) rfl (.cons (d := 12) rfl (.cons (d := 50) rfl (.nil _))))))))<|(OC) ?_
   refine aF rfl (fun h50 => ?_) (fun h50 => ?_)
   ·refine (DP) ?_
    exact j2 (h + 1) j ⟨⟨by omega, by omega, by omega, cg.SW h2 (by omega) (by omega) (by have q := ju.1 h50; rw [gE (h) (by omega), gE (a) (by omega)] at q; exact q), hhi⟩, by omega⟩ (bN ln) (sub (aT .nil) ao)
   ·refine (Qg) ?_
    exact j2 i h ⟨⟨by omega, by omega, by omega, hlo, cg.Ut h2 (by omega) (by omega) (by have q := Int.not_lt.1 (fun z => h50 (ju.2 z)); rw [gE (a) (by omega), gE (h) (by omega)] at q; exact q)⟩, by omega⟩ (bN ln) (sub (aT .nil) ao)
  ·refine (Qp) ?_
   have hij : i = j := by omega
   subst hij
   have hma : m = a + 1 := by omega
   subst hma
   refine (Qd) ?_
   refine gl (fun (k : Nat) (l2 : List Int) => [(0, .slice p n cap), (10, .int .i64 (i : Int)), (13, .int .i64 (k : Int))]) (fun (k : Nat) (l2 : List Int) => Row I3 p n cap (l2) :: S :: F) (fun (k : Nat) (l2 : List Int) => a ≤ k ∧ k ≤ i - 1 ∧ cg.Mv key I3.d l l2 a b k) (fun (k : Nat) (l2 : List Int) => i - k) (i2 (a) (l) ?_ (fz ln) (sub (aT .nil) ao)) ?_
   ·exact ⟨Nat.le_refl _, by omega, cg.Mv.start _ _ _⟩
   intro k l2
   rintro ⟨hk1, hk2, hMv⟩
   refine Wn TT 9 rfl (by omega) ?_
   refine aF rfl (fun h58 => ?_) (fun h58 => ?_)
   ·refine (Q5) ?_
    refine wN [pz 0 [] [0], pz 0 [] [13], pz 0 [] [0], pz 0 [] [13], pz 8 [3] [], pz 0 [] [0], pz 0 [] [13], pz 64 [6] [], pz 224 [5, 7] [], pz 480 [8] [], pz 0 [] [0], pz 0 [] [13], pz 3072 [10, 11] [], pz 7168 [12] [], pz 16355 [0, 1] [], pz 32739 [14, 9] [], pz 65535 [2, 4] [], pz 131071 [16, 13] []] [⟨fun y => Row I3 p n cap (l2), none, some 15, [8, 9, 12, 13, 14]⟩, ⟨fun y => S, none, none, []⟩, ⟨fun y => Row I3 p n cap ((l2).set (k : Int).toNat ((I3).g (l2) ((k : Int) + 1))), some 15, some 17, [16]⟩, ⟨fun y => Row I3 p n cap (((l2).set (k : Int).toNat ((I3).g (l2) ((k : Int) + 1))).set ((k : Int) + 1).toNat ((I3).g (l2) (k : Int))), some 17, none, []⟩] F V.mixed ?_
    iterate 4 refine nM ?_
    refine (Qy) ?_
    iterate 2 refine nM ?_
    refine nV (fun y hA L => eb rfl rfl wI) ?_
    refine nR (fun y FF hA => xI V.cA (own aA)) ?_
    refine nR (fun y FF hA => xL V.s3 (own aA)) ?_
    iterate 2 refine nM ?_
    refine (l8) ?_
    refine (wT) ?_
    refine (l8) ?_
    refine (vj) ?_
    refine (l8) ?_
    refine (vj) ?_
    refine (Qb) ?_
    intro y hA
    clear hA
    show kC _ _ _ _ (S :: Row I3 p n cap (((l2).set (k : Int).toNat ((I3).g (l2) ((k : Int) + 1))).set ((k : Int) + 1).toNat ((I3).g (l2) (k : Int))) :: F)
    refine jD<|bg<|(Qo)<|(Q6) ?_
    refine oV (eb rfl rfl wI)<|(rq) ?_
    refine df ?_
    have hlen2 := hMv.rl.len
    have e1 : ((k : Int) + 1).toNat = k + 1 := by omega
    have e0 : (k : Int).toNat = k := by omega
    simp only [Ec.g, e1, e0]
    exact j2 (k + 1) _ ⟨⟨by omega, by omega, hMv.step (by omega) (by omega) (by omega) (hlo _ (by omega) (by omega))⟩, by omega⟩ (fz ln) (sub (.cons ay (aq .nil)) ao)
   ·refine (Qp) ?_
    have hke : k = i - 1 := by omega
    subst hke
    exact ag ez ⟨rfl, l2, hMv.rl, hMv.fin (by omega) (by omega) h2 hlo hhi, rfl⟩ (sub (aT .nil) ao)
 ·refine jz TT 11 rfl (by omega) ?_
  refine aF rfl (fun h80 => ?_) (fun h80 => ?_)
  ·refine rC TT 14 rfl ?_
   refine gl (fun (i : Nat) (j : Nat) => [(0, .slice p n cap), (2, .int .i64 (m : Int)), (4, .func (.func cf) fs.toArray cs.toArray), (14, .int .i64 (i : Int)), (15, .int .i64 (j : Int))]) (fun (i : Nat) (j : Nat) => Row I3 p n cap (l) :: S :: F) (fun (i : Nat) (j : Nat) => a ≤ i ∧ i ≤ j ∧ j ≤ m ∧ (∀ x, a ≤ x → x < i → key (l.getD x I3.d) ≤ key (l.getD m I3.d)) ∧ (∀ x, j ≤ x → x < m → key (l.getD m I3.d) < key (l.getD x I3.d))) (fun (i : Nat) (j : Nat) => j - i) (i2 (a) (m) ?_ (bN ln) (sub (aT .nil) ao)) ?_
   ·exact ⟨Nat.le_refl _, by omega, Nat.le_refl _, fun x x1 x2 => by omega, fun x x1 x2 => by omega⟩
   intro i j
   rintro ⟨hi1, hij, hj1, hlo, hhi⟩
   refine (oM) ?_
   refine aF rfl (fun h85 => ?_) (fun h85 => ?_)
   ·refine (vT)<|(Ed)<|(JE)<|(H2)<|(rq) ?_
    obtain ⟨h, hhh⟩ : ∃ h : Nat, h = (i + j) / 2 := ⟨_, rfl⟩
    rw [show ((i : Int) + (j : Int)) / 2 = ((h : Nat) : Int) by omega]
    refine (Qe) ?_
    refine wN [pz 0 [] [4], pz 0 [] [0], pz 0 [] [2], pz 6 [1, 2] [], pz 14 [3] [], pz 0 [] [0], pz 0 [] [16], pz 96 [5, 6] [], pz 224 [7] [], pz 511 [0, 4, 8] [], pz 1023 [9] [], pz 2047 [10] []] [⟨fun y => Row I3 p n cap (l), none, none, [3, 4, 7, 8]⟩, ⟨fun y => S, none, some 9, []⟩, ⟨fun y => S, some 9, none, []⟩] F V.mixed ?_
    iterate 3 refine nM ?_
    refine (l8) ?_
    refine (wT) ?_
    iterate 2 refine nM ?_
    refine nR (fun y FF hA => xI V.cA (own aA)) ?_
    refine nR (fun y FF hA => xL V.s3 (own aA)) ?_
    refine nE (fun y FF hA => kr (fs := fs) (cs := cs) (Post := [S]) (hf (I3.g l (m : Int)) (I3.g l (h : Int)) (gP (k := m) (by omega) (hpd _ (by omega))) (gP (k := h) (by omega) (hpd _ (by omega)))) hb rfl rfl (aq .nil) (fun v G h => by rcases h with ⟨rfl, rfl⟩; exact ⟨rfl, .refl _⟩)) ?_
    refine nV (fun y hA L => dW rfl rfl) ?_
    refine nV (fun y hA L => Da rfl) ?_
    refine cN ?_
    intro y hA
    clear hA
    refine bg<|bD _ (.cons (d := 0) rfl (.cons (d := 2) rfl (.cons (d := 4) rfl (.cons (d := 14) rfl (.cons (d := 15) rfl (.cons (d := 16) rfl (.cons (d := 103) rfl (.nil _))))))))<|(OC) ?_
    refine aF rfl (fun h103 => ?_) (fun h103 => ?_)
    ·refine (DP) ?_
     exact j2 (h + 1) j ⟨⟨by omega, by omega, by omega, cg.Ur h1 (by omega) (by omega) (by have q := Int.not_lt.1 (fun z => h103 (ju.2 z)); rw [gE (h) (by omega), gE (m) (by omega)] at q; exact q), hhi⟩, by omega⟩ (bN ln) (sub (aT .nil) ao)
    ·refine (Qg) ?_
     exact j2 i h ⟨⟨by omega, by omega, by omega, hlo, cg.S0 h1 (by omega) (by omega) (by have q := ju.1 (Classical.not_not.1 h103); rw [gE (m) (by omega), gE (h) (by omega)] at q; exact q)⟩, by omega⟩ (bN ln) (sub (aT .nil) ao)
   ·refine (Qp) ?_
    have hij : i = j := by omega
    subst hij
    have hbm : b = m + 1 := by omega
    refine (Qd) ?_
    refine gl (fun (k : Nat) (l2 : List Int) => [(0, .slice p n cap), (14, .int .i64 (i : Int)), (17, .int .i64 (k : Int))]) (fun (k : Nat) (l2 : List Int) => Row I3 p n cap (l2) :: S :: F) (fun (k : Nat) (l2 : List Int) => i ≤ k ∧ k ≤ m ∧ cg.Mw key I3.d l l2 a b m k) (fun (k : Nat) (l2 : List Int) => k) (i2 (m) (l) ?_ (fz ln) (sub (aT .nil) ao)) ?_
    ·exact ⟨by omega, Nat.le_refl _, cg.Mw.start _ _ _ _⟩
    intro k l2
    rintro ⟨hk1, hk2, hMw⟩
    refine (oM) ?_
    refine aF rfl (fun h110 => ?_) (fun h110 => ?_)
    ·refine (Q5) ?_
     refine wN [pz 0 [] [0], pz 0 [] [17], pz 0 [] [0], pz 0 [] [17], pz 8 [3] [], pz 0 [] [0], pz 0 [] [17], pz 64 [6] [], pz 224 [5, 7] [], pz 480 [8] [], pz 0 [] [0], pz 0 [] [17], pz 3072 [10, 11] [], pz 7168 [12] [], pz 16355 [0, 1] [], pz 32739 [14, 9] [], pz 65535 [2, 4] [], pz 131071 [16, 13] []] [⟨fun y => Row I3 p n cap (l2), none, some 15, [8, 9, 12, 13, 14]⟩, ⟨fun y => S, none, none, []⟩, ⟨fun y => Row I3 p n cap ((l2).set (k : Int).toNat ((I3).g (l2) ((k : Int) - 1))), some 15, some 17, [16]⟩, ⟨fun y => Row I3 p n cap (((l2).set (k : Int).toNat ((I3).g (l2) ((k : Int) - 1))).set ((k : Int) - 1).toNat ((I3).g (l2) (k : Int))), some 17, none, []⟩] F V.mixed ?_
     iterate 4 refine nM ?_
     refine (vF) ?_
     iterate 2 refine nM ?_
     refine nV (fun y hA L => jX rfl rfl wI) ?_
     refine nR (fun y FF hA => xI V.cA (own aA)) ?_
     refine nR (fun y FF hA => xL V.s3 (own aA)) ?_
     iterate 2 refine nM ?_
     refine (l8) ?_
     refine (wT) ?_
     refine (l8) ?_
     refine (vj) ?_
     refine (l8) ?_
     refine (vj) ?_
     refine (Qb) ?_
     intro y hA
     clear hA
     show kC _ _ _ _ (S :: Row I3 p n cap (((l2).set (k : Int).toNat ((I3).g (l2) ((k : Int) - 1))).set ((k : Int) - 1).toNat ((I3).g (l2) (k : Int))) :: F)
     refine jD<|bg<|(Qo)<|(Q6) ?_
     refine oV (jX rfl rfl wI)<|(rq) ?_
     refine df ?_
     have hlen2 := hMw.rl.len
     have e1 : ((k : Int) - 1).toNat = k - 1 := by omega
     have e0 : (k : Int).toNat = k := by omega
     simp only [Ec.g, e1, e0]
     rw [show (k : Int) - 1 = ((k - 1 : Nat) : Int) by omega]
     exact j2 (k - 1) _ ⟨⟨by omega, by omega, hMw.step (by omega) (by omega) (by omega) (by omega) (hhi _ (by omega) (by omega))⟩, by omega⟩ (fz ln) (sub (.cons ay (aq .nil)) ao)
    ·refine (Qp) ?_
     have hke : k = i := by omega
     subst hke
     exact ag ez ⟨rfl, l2, hMw.rl, hMw.fin (by omega) (by omega) hbm h1 hlo hhi, rfl⟩ (sub (aT .nil) ao)
  ·refine jz TT 7 rfl (by omega)<|(Ed)<|(JE)<|(H2)<|(rq) ?_
   obtain ⟨mid, hmidmid⟩ : ∃ mid : Nat, mid = (a + b) / 2 := ⟨_, rfl⟩
   rw [show ((a : Int) + (b : Int)) / 2 = ((mid : Nat) : Int) by omega]
   refine iP TT 16 rfl (by omega) ?_
   refine Bp (fun (st0 : Nat) (r0 : Nat) => [(0, .slice p n cap), (1, .int .i64 (a : Int)), (2, .int .i64 (m : Int)), (3, .int .i64 (b : Int)), (4, .func (.func cf) fs.toArray cs.toArray), (18, .int .i64 (mid : Int)), (19, .int .i64 ((mid : Int) + (m : Int))), (20, .int .i64 (st0 : Int)), (21, .int .i64 (r0 : Int))]) (fun (st0 : Nat) (r0 : Nat) => Row I3 p n cap (l) :: S :: F) (fun (st0 : Nat) (r0 : Nat) => st0 = (if mid < m then mid + m - b else a) ∧ r0 = (if mid < m then mid else m)) ?_ ?_
   ·refine rL TT 7 rfl ?_
    refine aF rfl (fun h140 => ?_) (fun h140 => ?_)
    ·refine (DV) ?_
     (rw [show (mid : Int) + (m : Int) - (b : Int) = ((mid + m - b : Nat) : Int) by omega]; exact j2 (mid + m - b) mid ⟨(if_pos (by omega)).symm, (if_pos (by omega)).symm⟩ (eQ (bN ln)) (sub (aT .nil) ao))
    ·refine (QB) ?_
     exact j2 a m ⟨(if_neg (by omega)).symm, (if_neg (by omega)).symm⟩ (eQ (bN ln)) (sub (aT .nil) ao)
   ·intro st0 r0
    rintro hst
    have hb0 : a ≤ st0 ∧ st0 ≤ r0 ∧ r0 ≤ m ∧ r0 ≤ mid ∧ mid + m ≤ st0 + b ∧ mid < b := by obtain ⟨e0, e1⟩ := hst; split at e0 <;> split at e1 <;> omega
    refine jz TT 9 rfl (by omega) ?_
    refine gl (fun (s : Nat) (r : Nat) => [(0, .slice p n cap), (1, .int .i64 (a : Int)), (2, .int .i64 (m : Int)), (3, .int .i64 (b : Int)), (4, .func (.func cf) fs.toArray cs.toArray), (18, .int .i64 (mid : Int)), (19, .int .i64 ((mid : Int) + (m : Int))), (20, .int .i64 (s : Int)), (21, .int .i64 (r : Int)), (22, .int .i64 (((mid : Int) + (m : Int)) - 1))]) (fun (s : Nat) (r : Nat) => Row I3 p n cap (l) :: S :: F) (fun (s : Nat) (r : Nat) => st0 ≤ s ∧ s ≤ r ∧ r ≤ r0 ∧ (∀ x, st0 ≤ x → x < s → key (l.getD x I3.d) ≤ key (l.getD (mid + m - 1 - x) I3.d)) ∧ (∀ x, r ≤ x → x < r0 → key (l.getD (mid + m - 1 - x) I3.d) < key (l.getD x I3.d))) (fun (s : Nat) (r : Nat) => r - s) (i2 (st0) (r0) ?_ (bN (bN ln)) (sub (aT .nil) ao)) ?_
    ·exact ⟨Nat.le_refl _, by omega, Nat.le_refl _, fun x x1 x2 => by omega, fun x x1 x2 => by omega⟩
    intro s r
    rintro ⟨hs1, hsr1, hr1, hy, hno⟩
    refine (oM) ?_
    refine aF rfl (fun h151 => ?_) (fun h151 => ?_)
    ·refine (vT)<|(Ed)<|(JE)<|(H2)<|(rq) ?_
     obtain ⟨h, hhh⟩ : ∃ h : Nat, h = (s + r) / 2 := ⟨_, rfl⟩
     rw [show ((s : Int) + (r : Int)) / 2 = ((h : Nat) : Int) by omega]
     refine (Qe) ?_
     refine wN [pz 0 [] [4], pz 0 [] [0], pz 0 [] [22], pz 0 [] [23], pz 12 [2, 3] [], pz 30 [1, 4] [], pz 62 [5] [], pz 0 [] [0], pz 0 [] [23], pz 384 [7, 8] [], pz 896 [9] [], pz 2047 [0, 6, 10] [], pz 4095 [11] [], pz 8191 [12] []] [⟨fun y => Row I3 p n cap (l), none, none, [5, 6, 9, 10]⟩, ⟨fun y => S, none, some 11, []⟩, ⟨fun y => S, some 11, none, []⟩] F V.mixed ?_
     iterate 4 refine nM ?_
     refine (vF) ?_
     refine (l8) ?_
     refine (wT) ?_
     iterate 2 refine nM ?_
     refine nR (fun y FF hA => xI V.cA (own aA)) ?_
     refine nR (fun y FF hA => xL V.s3 (own aA)) ?_
     refine nE (fun y FF hA => kr (fs := fs) (cs := cs) (Post := [S]) (hf (I3.g l ((((mid : Int) + (m : Int)) - 1) - (h : Int))) (I3.g l (h : Int)) (gP (k := mid + m - 1 - h) (by omega) (hpd _ (by omega))) (gP (k := h) (by omega) (hpd _ (by omega)))) hb rfl rfl (aq .nil) (fun v G h => by rcases h with ⟨rfl, rfl⟩; exact ⟨rfl, .refl _⟩)) ?_
     refine nV (fun y hA L => dW rfl rfl) ?_
     refine nV (fun y hA L => Da rfl) ?_
     refine cN ?_
     intro y hA
     clear hA
     refine bg<|bD _ (.cons (d := 0) rfl (.cons (d := 1) rfl (.cons (d := 2) rfl (.cons (d := 3) rfl (.cons (d := 4) rfl (.cons (d := 18) rfl (.cons (d := 19) rfl (.cons (d := 20) rfl (.cons (d := 21) rfl (.cons (d := 22) rfl (.cons (d := 23) rfl (.cons (d := 171) rfl (.nil _)))))))))))))<|(OC) ?_
     refine aF rfl (fun h171 => ?_) (fun h171 => ?_)
     ·refine (DP) ?_
      exact j2 (h + 1) r ⟨⟨by omega, by omega, by omega, cg.SK ham hmb hmidmid h1 h2 hst.1 hst.2 (by omega) (by omega) (by have q := Int.not_lt.1 (fun z => h171 (ju.2 z)); rw [gE (h) (by omega), gE (mid + m - 1 - h) (by omega)] at q; exact q), hno⟩, by omega⟩ (bN (bN ln)) (sub (aT .nil) ao)
     ·refine (Qg) ?_
      exact j2 s h ⟨⟨by omega, by omega, by omega, hy, cg.R9 ham hmb hmidmid h1 h2 hst.1 hst.2 (by omega) (by omega) (by have q := ju.1 (Classical.not_not.1 h171); rw [gE (mid + m - 1 - h) (by omega), gE (h) (by omega)] at q; exact q)⟩, by omega⟩ (bN (bN ln)) (sub (aT .nil) ao)
    ·refine (Qd) ?_
     have hsr : s = r := by omega
     subst hsr
     obtain ⟨q1, q2, q3, q4, q5, q6, hlt, hc⟩ := cg.Gm (by omega) ham hmb hmidmid h1 h2 (by rw [← hst.1]; omega) (by rw [← hst.2]; omega) (fun hh => hy (s - 1) (by rw [← hst.1] at hh; omega) (by rw [← hst.1] at hh; omega)) (fun hh => hno s (Nat.le_refl _) (by rw [← hst.2] at hh; omega))
     refine jz TT 5 rfl (by omega) ?_
     obtain ⟨e, he⟩ : ∃ e : Nat, e = mid + m - s := ⟨_, rfl⟩
     rw [show (mid : Int) + (m : Int) - (s : Int) = ((e : Nat) : Int) by omega]
     refine (Q7) ?_
     refine kP (fun (l1 : List Int) => [(0, .slice p n cap), (1, .int .i64 (a : Int)), (3, .int .i64 (b : Int)), (4, .func (.func cf) fs.toArray cs.toArray), (18, .int .i64 (mid : Int)), (20, .int .i64 (s : Int)), (24, .int .i64 (e : Int))]) (fun (l1 : List Int) => Row I3 p n cap (l1) :: S :: F) (fun (l1 : List Int) => cg.mB key I3.d l l1 a s mid e b) ?_ ?_
     ·refine (Qm) ?_
      refine kh 181 rfl (fun h181 => ?_) (fun h181 => ?_)
      ·refine (Q1) ?_
       refine aF rfl (fun h185 => ?_) (fun h185 => ?_)
       ·obtain ⟨Pp, X, Y, Z, hl, hP, hX, hY, hXm, hYm⟩ := cg.blocks (d := I3.d) l s m e (by omega) (by omega) (by omega)
        subst hl
        refine (Qd) ?_
        refine aj (FE p n cap _ Pp X Y Z (s : Int) (m : Int) (e : Int) (by omega) (by omega) (by omega) (by omega) (by omega) (by simp only [List.length_append] at hlen; omega) hn2) V.X1  rfl (aq .nil) rfl ?_
        rintro _ _ ⟨rfl, rfl⟩
        refine df ?_
        refine j1 (_) ?_ (jg (bN ln)) (sub (aT .nil) ao)
        (subst he; exact cg.mB.YG hP hX (by omega) h1 h2 ⟨q1, q2, q3, q4, q5, q6⟩ (hlt (by omega) (by omega)) hc hXm hYm)
       ·refine (Q9) ?_
        refine j1 (_) ?_ (jg (bN ln)) (sub (aT .nil) ao)
        (subst he; exact cg.mB.stay h1 h2 ⟨q1, q2, q3, q4, q5, q6⟩ hc (by omega))
      ·refine (Qj) ?_
       refine j1 (_) ?_ (jg (bN ln)) (sub (aT .nil) ao)
       (subst he; exact cg.mB.stay h1 h2 ⟨q1, q2, q3, q4, q5, q6⟩ hc (by omega))
     ·intro l1
      rintro hPt
      refine kP (fun (l2 : List Int) => [(0, .slice p n cap), (3, .int .i64 (b : Int)), (4, .func (.func cf) fs.toArray cs.toArray), (18, .int .i64 (mid : Int)), (24, .int .i64 (e : Int))]) (fun (l2 : List Int) => Row I3 p n cap (l2) :: S :: F) (fun (l2 : List Int) => cg.Rl key I3.d l1 l2 a mid ∧ cg.Sd key I3.d l2 a mid) ?_ ?_
      ·refine (Qm) ?_
       refine kh 195 rfl (fun h195 => ?_) (fun h195 => ?_)
       ·refine (Q1) ?_
        refine aF rfl (fun h199 => ?_) (fun h199 => ?_)
        ·refine (Qd) ?_
         refine aj (ih l1 a s mid (by omega) (by omega) (by omega) (by omega) (hPt.rl.pd (by omega) hpd) hPt.s1 hPt.s2) V.Cd  rfl (aT .nil) rfl ?_
         rintro _ _ ⟨rfl, l2, hr2, hs2, rfl⟩
         refine df ?_
         refine j1 (_) ?_ (bN ln) (sub (aT .nil) ao)
         exact ⟨hr2, hs2⟩
        ·refine (Q9) ?_
         refine j1 (_) ?_ (bN ln) (sub (aT .nil) ao)
         exact ⟨cg.Rl.refl _ _ _, cg.Sd.join hPt.s1 hPt.s2 (fun i j i1 i2 j1 j2 => by omega)⟩
       ·refine (Qj) ?_
        refine j1 (_) ?_ (bN ln) (sub (aT .nil) ao)
        exact ⟨cg.Rl.refl _ _ _, cg.Sd.join hPt.s1 hPt.s2 (fun i j i1 i2 j1 j2 => by omega)⟩
      ·intro l2
       rintro ⟨hR2, hS2⟩
       refine (Qd) ?_
       refine kh 209 rfl (fun h209 => ?_) (fun h209 => ?_)
       ·refine (Q1) ?_
        refine aF rfl (fun h213 => ?_) (fun h213 => ?_)
        ·refine (Qd) ?_
         refine aj (ih l2 mid e b (by omega) (by omega) (by omega) (by omega) (hR2.pd (by omega) (hPt.rl.pd (by omega) hpd)) (hPt.s3.congr (fun i i1 i2 => hR2.out i (by omega))) (hPt.s4.congr (fun i i1 i2 => hR2.out i (by omega)))) V.Cd  rfl (aT .nil) rfl ?_
         rintro _ _ ⟨rfl, l3, hr3, mL, rfl⟩
         exact df<|gv ez ⟨rfl, l3, hPt.rl.trans ((hR2.wide (Nat.le_refl _) (by omega)).trans (hr3.wide (by omega) (Nat.le_refl _))), cg.Sd.join (hS2.congr (fun i i1 i2 => hr3.out i (by omega))) mL (cg.zn (cg.nY hPt.cr hR2) hr3), rfl⟩ (sub (aT .nil) ao)
        ·refine (Q9) ?_
         exact gv ez ⟨rfl, l2, hPt.rl.trans (hR2.wide (Nat.le_refl _) (by omega)), cg.Sd.join hS2 (cg.Sd.join (hPt.s3.congr (fun i i1 i2 => hR2.out i (by omega))) (hPt.s4.congr (fun i i1 i2 => hR2.out i (by omega))) (fun i j i1 i2 j1 j2 => by omega)) (cg.nY hPt.cr hR2), rfl⟩ (sub (aT .nil) ao)
       ·refine (Qj) ?_
        exact gv ez ⟨rfl, l2, hPt.rl.trans (hR2.wide (Nat.le_refl _) (by omega)), cg.Sd.join hS2 (cg.Sd.join (hPt.s3.congr (fun i i1 i2 => hR2.out i (by omega))) (hPt.s4.congr (fun i i1 i2 => hR2.out i (by omega))) (fun i j i1 i2 j1 j2 => by omega)) (cg.nY hPt.cr hR2), rfl⟩ (sub (aT .nil) ao)
theorem r4 (p : Option Addr) (n cap : Nat) (cf : Nat) (fs cs : List Value) (S : ab) (key : Int → Int) (Pd : Int → Prop) (hb : aB Tryz.prog cf = true) (hf : ∀ x y, Pd x → Pd y → aC Tryz.prog cf (fs ++ [.int .i64 x, .int .i64 y] ++ cs) [S] (aG fun v G => v = .int .i64 (lC (key x) (key y)) ∧ G = [S])) (hn2 : n ≤ 1000000) : ∀ (k : Nat) (l : List Int) (a m b : Nat), b - a ≤ k → a < m → m < b → b ≤ n → (∀ i, i < n → Pd (l.getD i I3.d)) → cg.Sd key I3.d l a m → cg.Sd key I3.d l m b → aC Tryz.prog 246 [.slice p n cap, .int .i64 (a : Int), .int .i64 (m : Int), .int .i64 (b : Int), .func (.func cf) fs.toArray cs.toArray] [Row I3 p n cap (l), S] (aG fun v G => v = .tuple #[] ∧ ∃ l2, cg.Rl key I3.d l l2 a b ∧ cg.Sd key I3.d l2 a b ∧ G = [Row I3 p n cap (l2), S])
 | 0, l, a, m, b, hk, ham, hmb, hbn, hpd, h1, h2 => by omega
 | k + 1, l, a, m, b, hk, ham, hmb, hbn, hpd, h1, h2 => Dp p n cap cf fs cs S key Pd hb hf l a m b ham hmb hbn hn2 hpd h1 h2 (fun l a2 m2 b2 hlt q1 q2 q3 q4 q5 q6 => r4 p n cap cf fs cs S key Pd hb hf hn2 k l a2 m2 b2 (by omega) q1 q2 q3 q4 q5 q6)
set_option maxHeartbeats 8000000 in
theorem Df (p : Option Addr) (n cap : Nat) (cf : Nat) (fs cs : List Value) (S : ab) (key : Int → Int) (Pd : Int → Prop) (hb : aB Tryz.prog cf = true) (hf : ∀ x y, Pd x → Pd y → aC Tryz.prog cf (fs ++ [.int .i64 x, .int .i64 y] ++ cs) [S] (aG fun v G => v = .int .i64 (lC (key x) (key y)) ∧ G = [S])) (l : List Int) (hn2 : n ≤ 1000000) (hpd : ∀ i, i < n → Pd (l.getD i I3.d)) : aC Tryz.prog 229 [.slice p n cap, .int .i64 (n : Int), .func (.func cf) fs.toArray cs.toArray] [Row I3 p n cap (l), S] (aG fun v G => v = .tuple #[] ∧ ∃ l2, cg.Rl key I3.d l l2 0 n ∧ cg.Sd key I3.d l2 0 n ∧ G = [Row I3 p n cap (l2), S]) := by
 refine au [(0, _), (1, _), (2, _)] Tryz.func229 rfl Tryz.ntmps229 rfl rfl ?_
 intro w0 F
 refine rT TT 14 rfl ?_
 refine gl (fun (A : Nat) (l1 : List Int) => [(0, .slice p n cap), (1, .int .i64 (n : Int)), (2, .func (.func cf) fs.toArray cs.toArray), (6, .int .i64 20), (7, .int .i64 (A : Int)), (8, .int .i64 ((20 + A : Nat) : Int))]) (fun (A : Nat) (l1 : List Int) => Row I3 p n cap (l1) :: S :: F) (fun (A : Nat) (l1 : List Int) => 20 ∣ A ∧ A ≤ n ∧ cg.Rl key I3.d l l1 0 n ∧ cg.Bd key I3.d l1 20 A) (fun (A : Nat) (l1 : List Int) => n - A) (i2 (0) (l) ?_ (jy (bN ln)) (sub (aT .nil) ao)) ?_
 ·exact ⟨Nat.dvd_zero _, Nat.zero_le _, cg.Rl.refl _ _ _, cg.Bd.zero _ _ (by decide)⟩
 intro A l1
 rintro ⟨hA, hAn, hR1, hBd⟩
 refine (oM) ?_
 refine aF rfl (fun h13 => ?_) (fun h13 => ?_)
 ·refine (oO) ?_
  refine aj (qp p n cap cf fs cs S key Pd hb hf l1 _ _ A (20 + A) rfl rfl (by omega) (by omega) hn2 (hR1.pd (Nat.le_refl _) hpd)) V.N3  rfl (aT .nil) rfl ?_
  rintro _ _ ⟨rfl, l3, hr3, mL, rfl⟩
  refine iP TT 15 rfl (by omega) ?_
  rw [show ((20 + A : Nat) : Int) + 20 = ((20 + (20 + A) : Nat) : Int) by omega]
  exact j2 (20 + A) _ ⟨⟨by omega, by omega, hR1.trans (hr3.wide (Nat.zero_le _) (by omega)), hBd.step hA hr3 mL⟩, by omega⟩ (jy (bN ln)) (sub (aT .nil) ao)
 ·refine (nS) ?_
  refine aj (qp p n cap cf fs cs S key Pd hb hf l1 _ _ A n rfl rfl (by omega) (by omega) hn2 (hR1.pd (Nat.le_refl _) hpd)) V.N3  rfl (aT .nil) rfl ?_
  rintro _ _ ⟨rfl, l3, hr3, mL, rfl⟩
  refine (Qe) ?_
  refine gl (fun (bs : Nat) (l1 : List Int) => [(0, .slice p n cap), (1, .int .i64 (n : Int)), (2, .func (.func cf) fs.toArray cs.toArray), (6, .int .i64 (bs : Int))]) (fun (bs : Nat) (l1 : List Int) => Row I3 p n cap (l1) :: S :: F) (fun (bs : Nat) (l1 : List Int) => 0 < bs ∧ cg.Rl key I3.d l l1 0 n ∧ cg.Bk key I3.d l1 bs n) (fun (bs : Nat) (l1 : List Int) => n - bs) (i2 (20) (_) ?_ (eQ ln) (sub (aT .nil) ao)) ?_
  ·exact ⟨by decide, hR1.trans (hr3.wide (Nat.zero_le _) (Nat.le_refl _)), hBd.fin hA hAn (by omega) hr3 mL⟩
  intro bs l1
  rintro ⟨hbs, hR1, hBk⟩
  refine (oM) ?_
  refine aF rfl (fun h30 => ?_) (fun h30 => ?_)
  ·refine jz TT 13 rfl (by omega) ?_
   refine gl (fun (A : Nat) (l2 : List Int) => [(0, .slice p n cap), (1, .int .i64 (n : Int)), (2, .func (.func cf) fs.toArray cs.toArray), (6, .int .i64 (bs : Int)), (7, .int .i64 (A : Int)), (8, .int .i64 ((2 * bs + A : Nat) : Int))]) (fun (A : Nat) (l2 : List Int) => Row I3 p n cap (l2) :: S :: F) (fun (A : Nat) (l2 : List Int) => 2 * bs ∣ A ∧ A ≤ n ∧ cg.Rl key I3.d l l2 0 n ∧ cg.Bd key I3.d l2 (2 * bs) A ∧ cg.Br key I3.d l2 bs n A) (fun (A : Nat) (l2 : List Int) => n - A) (i2 (0) (_) ?_ (jy (bN ln)) (sub (aT .nil) ao)) ?_
   ·exact ⟨Nat.dvd_zero _, Nat.zero_le _, hR1, cg.Bd.zero _ _ (by omega), hBk.br⟩
   intro A l2
   rintro ⟨hA, hAn, hR2, hBd, hBr⟩
   refine (oM) ?_
   refine aF rfl (fun h35 => ?_) (fun h35 => ?_)
   ·refine (DV) ?_
    refine aj (r4 p n cap cf fs cs S key Pd hb hf hn2 _ l2 A (A + bs) (2 * bs + A) (Nat.le_refl _) (by omega) (by omega) (by omega) (hR2.pd (Nat.le_refl _) hpd) (hBr.two hA (by omega)).1 (hBr.two hA (by omega)).2) V.Cd  rfl (aT .nil) rfl ?_
    rintro _ _ ⟨rfl, l3, hr3, mL, rfl⟩
    refine iP TT 16 rfl (by omega) ?_
    rw [show ((2 * bs + A : Nat) : Int) + 2 * (bs : Int) = ((2 * bs + (2 * bs + A) : Nat) : Int) by omega]
    exact j2 (2 * bs + A) _ ⟨⟨Nat.dvd_add (Nat.dvd_refl _) hA, by omega, hR2.trans (hr3.wide (Nat.zero_le _) (by omega)), hBd.step hA hr3 mL, hBr.step (by omega) hr3⟩, by omega⟩ (jy (bN ln)) (sub (aT .nil) ao)
   ·refine jz TT 21 rfl (by omega) ?_
    refine aF rfl (fun h54 => ?_) (fun h54 => ?_)
    ·refine (Qd) ?_
     refine aj (r4 p n cap cf fs cs S key Pd hb hf hn2 _ l2 A (A + bs) n (Nat.le_refl _) (by omega) (by omega) (by omega) (hR2.pd (Nat.le_refl _) hpd) (hBr.last hA (by omega) (by omega)).1 (hBr.last hA (by omega) (by omega)).2) V.Cd  rfl (aT .nil) rfl ?_
     rintro _ _ ⟨rfl, l3, hr3, mL, rfl⟩
     refine (QG) ?_
     rw [show (bs : Int) * 2 = ((2 * bs : Nat) : Int) by omega]
     exact j2 (2 * bs) _ ⟨⟨by omega, hR2.trans (hr3.wide (Nat.zero_le _) (Nat.le_refl _)), hBd.fin hA (by omega) (by omega) hr3 mL⟩, by omega⟩ (eQ ln) (sub (aT .nil) ao)
    ·refine (vT) ?_
     rw [show (bs : Int) * 2 = ((2 * bs : Nat) : Int) by omega]
     exact j2 (2 * bs) _ ⟨⟨by omega, hR2, hBd.fin hA (by omega) (by omega) (cg.Rl.refl _ _ _) (hBr.one hA (by omega))⟩, by omega⟩ (eQ ln) (sub (aT .nil) ao)
  ·refine (Q5) ?_
   exact gv ez ⟨rfl, l1, hR1, hBk.all (by omega), rfl⟩ (sub (aT .nil) ao)
theorem Lc (p : Option Addr) (n cap : Nat) (cf : Nat) (fs cs : List Value) (S : ab) (key : Int → Int) (Pd : Int → Prop) (hb : aB Tryz.prog cf = true) (hf : ∀ x y, Pd x → Pd y → aC Tryz.prog cf (fs ++ [.int .i64 x, .int .i64 y] ++ cs) [S] (aG fun v G => v = .int .i64 (lC (key x) (key y)) ∧ G = [S])) (l : List Int) (hn2 : n ≤ 1000000) (hpd : ∀ i, i < n → Pd (l.getD i I3.d)) : aC Tryz.prog 216 [.slice p n cap, .func (.func cf) fs.toArray cs.toArray] [Row I3 p n cap (l), S] (aG fun v G => v = .tuple #[] ∧ ∃ l2, cg.Rl key I3.d l l2 0 n ∧ cg.Sd key I3.d l2 0 n ∧ G = [Row I3 p n cap (l2), S]) := by
 refine au [(0, _), (1, _)] Tryz.func216 rfl Tryz.ntmps216 rfl rfl ?_
 intro w0 F
 refine (QI) ?_
 refine aj (Df p n cap cf fs cs S key Pd hb hf l hn2 hpd) V.Xe  rfl (aT .nil) rfl ?_
 rintro _ _ ⟨rfl, l3, hr3, mL, rfl⟩
 exact df<|gv ez ⟨rfl, l3, hr3, mL, rfl⟩ (sub (aT .nil) ao)
end Go.Proofs.YtmaiakpjgomnpaaGreat
namespace Go.Proofs.YtmaiakpjgomnpaaGreat
open Go.Sl 
theorem zW (x : Int) : aC Tryz.prog 230 [.int .i64 x] [] (aG fun v G => v = .bool false ∧ G = []) := by
 refine au [(0, _)] Tryz.func230 rfl Tryz.ntmps230 rfl rfl ?_
 intro w0 F
 exact rT TT 14 rfl<|ag (aw rfl) ⟨by simp, rfl⟩ (sub .nil ao)
theorem Es (x y : Int) : aC Tryz.prog 218 [.int .i64 x, .int .i64 y] [] (aG fun v G => v = .int .i64 (lC x y) ∧ G = []) := by
 refine au [(0, _), (1, _)] Tryz.func218 rfl Tryz.ntmps218 rfl rfl ?_
 intro w0 F
 refine (QJ) ?_
 refine aj (zW x) V.Ry  rfl .nil rfl ?_
 rintro _ _ ⟨rfl, rfl⟩
 refine (Q1) ?_
 refine aj (zW y) V.Ry  rfl .nil rfl ?_
 rintro _ _ ⟨rfl, rfl⟩
 refine rO TT 29 rfl ?_
 refine aF rfl (fun h16 => ?_) (fun h16 => ?_)
 ·refine (Qp) ?_
  exact ag (aw rfl) ⟨by rw [lC, if_pos (by assumption)], rfl⟩ (sub .nil ao)
 ·refine (QB) ?_
  refine aF rfl (fun h19 => ?_) (fun h19 => ?_)
  ·refine (Qp) ?_
   exact ag (aw rfl) ⟨by rw [lC, if_neg (by assumption), if_pos (by omega)], rfl⟩ (sub .nil ao)
  ·refine rC TT 8 rfl ?_
   exact ag (aw rfl) ⟨by rw [lC, if_neg (by assumption), if_neg (by omega)], rfl⟩ (sub .nil ao)
theorem RZ (p : Option Addr) (n cap : Nat) (ls : List Int) (R : ab) (hR : ∀ w0 h, R w0 h → aE I3 p n ls w0 h) (bL : Nat) (x y : Int) (hx : 0 ≤ x ∧ x < n) (hy : 0 ≤ y ∧ y < n) : aC Tryz.prog 217 [.int .i64 x, .int .i64 y, .pointer (some ⟨bL, 0, none⟩)] [ai bL 47 [.slice p n cap], R] (aG fun v G => v = .int .i64 (lC (ls.getD x.toNat 0) (ls.getD y.toNat 0)) ∧ G = [ai bL 47 [.slice p n cap], R]) := by
 refine au [(0, _), (1, _), (2, _)] Tryz.func217 rfl Tryz.ntmps217 rfl rfl ?_
 intro w0 F
 refine (QV) ?_
 refine wN [pz 0 [] [2], pz 0 [] [0], pz 3 [0, 1] [], pz 7 [2] [], pz 0 [] [2], pz 0 [] [1], pz 48 [4, 5] [], pz 112 [6] [], pz 255 [3, 7] [], pz 511 [8] []] [⟨fun y => ai bL 47 [.slice p n cap], none, none, [0, 4]⟩, ⟨fun y => R, none, none, [2, 3, 6, 7]⟩] F V.mixed ?_
 refine (Nq) ?_
 refine nM ?_
 refine nR (fun y FF hA => xI V.cA (by exact bG hR aA)) ?_
 refine nR (fun y FF hA => xL V.s3 (by exact bG hR aA)) ?_
 refine (Nq) ?_
 refine nM ?_
 refine nR (fun y FF hA => xI V.cA (by exact bG hR aA)) ?_
 refine nR (fun y FF hA => xL V.s3 (by exact bG hR aA)) ?_
 refine nE (fun y FF hA => aX (Post := []) (Es _ _) V.Xa rfl .nil (fun v G h => by rcases h with ⟨rfl, rfl⟩; exact ⟨rfl, .refl _⟩)) ?_
 refine nA ?_
 refine (Qb) ?_
 intro y hA
 clear hA
 refine bg<|bD _ (.cons (d := 5) rfl (.nil _))<|bb (M := ai bL 47 [.slice p n cap] :: R :: F) (fun _ _ h => h)<|(Q9) ?_
 exact ag (aw rfl) ⟨rfl, rfl⟩ (sub (aT .nil) ao)
theorem Me (C : List Int) (all : Int) (hl : C.length = 16) (hC : ∀ i, 0 ≤ C.getD i 0 ∧ C.getD i 0 ≤ 320) : aC Tryz.prog 215 [.agg (ints .i64 C).toArray, .int .i64 all] [] (aG fun v G => v = .bool (ae.fM C all) ∧ G = []) := by
 refine au [(0, _), (1, _)] Tryz.func215 rfl Tryz.ntmps215 rfl rfl ?_
 intro w0 F
 refine (Qr) ?_
 refine iL rfl (yA _ _) rfl ?_
 intro b2
 refine (QK) ?_
 refine cB (fun (k : Nat) => [(1, .int .i64 all), (2, .pointer (some ⟨b2, 0, none⟩)), (5, .int .i64 (ae.left C k)), (6, .int .i64 ((k : Int) + 1))]) (fun (k : Nat) => ai b2 229 (CA [] .i64 C []) :: F) (fun (k : Nat) => k ≤ 15 ∧ ∀ m, 1 ≤ m → m ≤ k → 0 ≤ ae.left C m) (fun (k : Nat) => 15 - k) (i1 (0) ?_ (eQ ln) (sub (aq .nil) ao)) ?_
 ·exact ⟨by omega, fun m h1 h2 => by omega⟩
 intro k
 rintro ⟨hk, hno⟩
 have hcc := hC ((k : Int) + 1).toNat
 have hlb := ae.CE (fun i => (hC i).1) hk
 have hl0 := ae.L9 hno
 have hlen : C.length = 16 := hl
 refine rL TT 7 rfl ?_
 refine aF rfl (fun h8 => ?_) (fun h8 => ?_)
 ·refine jz TT 9 rfl (by omega)<|oV (dh (k + 1) rfl V.qV rfl rfl (by omega))<|oV (oS ((k : Int) + 1) V.s3 rfl aA (by (simp only [List.length_cons, List.length_nil]; omega)) (by omega) (by omega))<|(Bi) ?_
  refine aF rfl (fun h18 => ?_) (fun h18 => ?_)
  ·refine (nS) ?_
   exact ag (aw rfl) ⟨by rw [ae.zd (n := k + 1) (by omega) (by omega) (by rw [← ae.ph]; exact h18)], rfl⟩ (sub .nil bC)
  ·refine (vT) ?_
   have hno2 := ae.DE hno h18
   rw [ae.ph]
   exact j1 (k + 1) ⟨⟨by omega, hno2⟩, by omega⟩ (eQ ln) (sub (aq .nil) ao)
 ·refine (QB) ?_
  refine kh 21 rfl (fun h21 => ?_) (fun h21 => ?_)
  ·exact rO TT 16 rfl<|ag (aw rfl) ⟨by rw [ae.mQ hk h8 hno]; (simp [h21]; done), rfl⟩ (sub .nil bC)
  ·refine (Q8) ?_
   refine kh 25 rfl (fun h25 => ?_) (fun h25 => ?_)
   ·refine (QL) ?_
    exact ag (aw rfl) ⟨by rw [ae.mQ hk h8 hno]; (simp [h21, h25]; done), rfl⟩ (sub .nil bC)
   ·refine (Qe) ?_
    refine kh 28 rfl (fun h28 => ?_) (fun h28 => ?_)
    ·refine (Q0) ?_
     refine oV (dh 1 rfl V.qV rfl rfl (by omega))<|(Q0) ?_
     refine oV (oS (1 : Int) V.s3 rfl aA (by (simp only [List.length_cons, List.length_nil]; omega)) (by omega) (by omega))<|(Qc) ?_
     exact ag (aw rfl) ⟨by rw [ae.mQ hk h8 hno]; (simp [h21, h25, h28]; done), rfl⟩ (sub .nil bC)
    ·refine (Qn) ?_
     exact ag (aw rfl) ⟨by rw [ae.mQ hk h8 hno]; (simp [h21, h25, h28]; done), rfl⟩ (sub .nil bC)
end Go.Proofs.YtmaiakpjgomnpaaGreat
namespace Go.Proofs.YtmaiakpjgomnpaaGreat
open Go.Sl 
attribute [local irreducible] ae.ord ae.gY ae.cC ae.bJ ae.bX ae.words ae.eU ae.lenOf ae.a8 ae.left ae.fM
set_option maxHeartbeats 1000000 in
theorem Iv (p : Option Addr) (cap : Nat) (ls : List Int) (R : ab) (hR : ∀ w0 h, R w0 h → aE I3 p ls.length ls w0 h) : aC Tryz.prog 195 [.slice p ls.length cap] [R] (aG fun v G => (ae.a8 ls = 0 ∧ ∃ b, v = .tuple #[.pointer (some ⟨b, 0, none⟩), .int .i64 0] ∧ G = [HC b ls, R]) ∨ (ae.a8 ls ≠ 0 ∧ v = .tuple #[.pointer none, .int .i64 (ae.a8 ls)] ∧ G = [R])) := by
 refine au [(0, _)] Tryz.func195 rfl Tryz.ntmps195 rfl rfl ?_
 intro w0 F
 refine (Qr)<|(tw) ?_
 intro b1
 refine (Qc)<|(Jq)<|(Q8) ?_
 refine aF rfl (fun h13 => ?_) (fun h13 => ?_)
 ·exact rC TT 8 rfl<|ag (eC rfl rfl) (.inr ⟨by rw [ae.vw (by omega)]; decide, by rw [ae.vw (by omega)], rfl⟩) (sub (.cons ay .nil) bC)
 ·refine (Q5)<|(Jq)<|(IF) ?_
  refine kO ls.length ls.length (o9) rfl rfl V.JJ V.Ro rfl rfl rfl rfl (by omega) (by omega) rfl rfl ?_
  intro b16
  refine oV (c5 V.Tw V.XE rfl (cs := [_, _, _, _, _, _, _, _, _, _, _, _, _, _, _, _, _, _, _]) rfl)<|iL rfl (show _ = CA [.slice (some ⟨b16, 0, none⟩) ls.length ls.length] .i64 (ae.bJ (ls.take 0)) [.slice none (ae.cC (ls.take 0)).length 0, .int .i64 (ae.bX (ls.take 0))] from by rw [List.take_zero, ae.Hs, ae.xW, ae.G6]; rfl) rfl ?_
  intro b18
  refine (Q1)<|(Aj)<|(Q3) ?_
  refine jk (Row I3 none (ae.cC (ls.take 0)).length 0 (ae.cC (ls.take 0))) (by rw [List.take_zero, ae.xW]; exact Row.nil _ _ _) ?_
  refine gM (fun (k : Nat) (po : Option Addr) (co : Nat) => [(1, .pointer (some ⟨b1, 0, none⟩)), (4, .pointer (some ⟨b18, 0, none⟩)), (19, .slice p ls.length cap), (20, .int .i64 (ls.length : Int)), (21, .int .i64 (k : Int))]) (fun (k : Nat) (po : Option Addr) (co : Nat) => ai b18 275 (CA [.slice (some ⟨b16, 0, none⟩) ls.length ls.length] .i64 (ae.bJ (ls.take k)) [.slice po (ae.cC (ls.take k)).length co, .int .i64 (ae.bX (ls.take k))]) :: Row I3 po (ae.cC (ls.take k)).length co (ae.cC (ls.take k)) :: Row o9 (some ⟨b16, 0, none⟩) ls.length ls.length (List.replicate ls.length (0, 0)) :: ai b1 47 [.slice p ls.length cap] :: R :: F) (fun (k : Nat) (po : Option Addr) (co : Nat) => k ≤ ls.length ∧ ∀ i, i < k → 0 ≤ ls.getD i 0 ∧ ls.getD i 0 ≤ 15) (fun (k : Nat) (po : Option Addr) (co : Nat) => ls.length - k) (i3 (0) (none) (0) ?_ (bN ln) (sub (.cons ay (mH .nil)) ao)) ?_
  ·exact ⟨by omega, fun i hi => by omega⟩
  intro k po co
  rintro ⟨hk, hok⟩
  refine (Qm) ?_
  refine aF rfl (fun h22 => ?_) (fun h22 => ?_)
  ·refine (Qp)<|(N8)<|(Q1) ?_
   have hk2 : k < ls.length := by omega
   have hg : I3.g ls (k : Int) = ls.getD k 0 := by simp [Ec.g]
   have hg2 : ls.getD k 0 = ls[k] := by simp [hk2]
   have htk : (ls.take k).length = k := by rw [List.length_take]; omega
   have hcl := ae.jl (ls.take k)
   have hcb := ae.oh (ls := ls.take k) (by omega) (I3.g ls (k : Int)).toNat
   have hpl2 := ae.uP (ls.take k)
   refine (Q5) ?_
   refine kh 28 rfl (fun h28 => ?_) (fun h28 => ?_)
   ·exact rO TT 19 rfl<|ag (eC rfl rfl) (.inr ⟨by rw [ae.oD (by omega) hk2 (by omega)]; decide, by rw [ae.oD (by omega) hk2 (by omega)], rfl⟩) (sub (.cons iG .nil) k6)
   ·refine (Q3) ?_
    refine aF rfl (fun h31 => ?_) (fun h31 => ?_)
    ·exact rC TT 13 rfl<|ag (eC rfl rfl) (.inr ⟨by rw [ae.oD (by omega) hk2 (by omega)]; decide, by rw [ae.oD (by omega) hk2 (by omega)], rfl⟩) (sub (.cons iG .nil) k6)
    ·refine rC TT 8 rfl ?_
     refine aF rfl (fun h33 => ?_) (fun h33 => ?_)
     ·refine (Q9) ?_
      refine wN [pz 0 [] [4], pz 0 [] [6], pz 1 [0] [], pz 5 [2] [], pz 15 [3, 1] [], pz 31 [4] [], pz 63 [5] [], pz 1 [0] [], pz 129 [7] [], pz 511 [8, 1] [], pz 1023 [9, 6] []] [⟨fun y => ai b18 275 (CA [.slice (some ⟨b16, 0, none⟩) ls.length ls.length] .i64 (ae.bJ (ls.take k)) [.slice po (ae.cC (ls.take k)).length co, .int .i64 (ae.bX (ls.take k))]), none, some 10, [5]⟩, ⟨fun y => Row I3 po (ae.cC (ls.take k)).length co (ae.cC (ls.take k)), none, none, []⟩, ⟨fun y => Row o9 (some ⟨b16, 0, none⟩) ls.length ls.length (List.replicate ls.length (0, 0)), none, none, []⟩, ⟨fun y => ai b1 47 [.slice p ls.length cap], none, none, []⟩, ⟨fun y => R, none, none, []⟩, ⟨fun y => ai b18 275 (CA [.slice (some ⟨b16, 0, none⟩) ls.length ls.length] .i64 ((ae.bJ (ls.take k)).set (((I3.g ls (k : Int))).toNat) (((ae.bJ (ls.take k)).getD (((I3.g ls (k : Int))).toNat) 0) + 1)) [.slice po (ae.cC (ls.take k)).length co, .int .i64 (ae.bX (ls.take k))]), some 10, none, []⟩] F V.mixed ?_
      iterate 2 refine nM ?_
      refine nN ?_
      refine nG V.xG ?_
      refine nV (fun y hA L => dh (((I3.g ls (k : Int))).toNat) (by omega) V.qV rfl rfl (by omega)) ?_
      refine nR (fun y FF hA => oS (I3.g ls (k : Int)) V.s3 rfl aA (by (simp only [List.length_cons, List.length_nil]; omega)) (by omega) (by omega)) ?_
      refine nV (fun y hA L => eb rfl rfl wI) ?_
      refine nN ?_
      refine nG V.xG ?_
      refine nV (fun y hA L => dh (((I3.g ls (k : Int))).toNat) (by omega) V.qV rfl rfl (by omega)) ?_
      refine nE (fun y FF hA => dE (zT (I3.g ls (k : Int)) V.s3 rfl rfl (by exact fW) (by (simp only [List.length_cons, List.length_nil]; omega)) (by omega) (by omega)) ⟨rfl, .refl _⟩) ?_
      refine cN ?_
      intro y hA
      clear hA
      refine bg<|bD _ (.cons (d := 1) rfl (.cons (d := 4) rfl (.cons (d := 5) rfl (.cons (d := 6) rfl (.cons (d := 19) rfl (.cons (d := 20) rfl (.cons (d := 21) rfl (.nil _))))))))<|bb (M := Row I3 po (ae.cC (ls.take k)).length co (ae.cC (ls.take k)) :: Row o9 (some ⟨b16, 0, none⟩) ls.length ls.length (List.replicate ls.length (0, 0)) :: ai b1 47 [.slice p ls.length cap] :: R :: ai b18 275 (CA [.slice (some ⟨b16, 0, none⟩) ls.length ls.length] .i64 ((ae.bJ (ls.take k)).set (((I3.g ls (k : Int))).toNat) (((ae.bJ (ls.take k)).getD (((I3.g ls (k : Int))).toNat) 0) + 1)) [.slice po (ae.cC (ls.take k)).length co, .int .i64 (ae.bX (ls.take k))]) :: F) (fun _ _ h => h)<|(Qd) ?_
      refine oV (kJ (n := 16) 0 V.ml rfl jB (by (simp only [List.length_set]; omega)) rfl rfl)<|(Q6) ?_
      refine cM (I3) [(k : Int)] V.cA V.z3 rfl rfl rfl rfl rfl rfl ?_
      intro b50
      refine (UU) ?_
      intro p51 c51
      refine (Q7) ?_
      refine cu (x7 (n := 16) 0 V.ml rfl rfl rfl (by exact IP) (by (simp only [List.length_set]; omega)) rfl (by exact Nat.le_of_ble_eq_true rfl) rfl)<|(Qc) ?_
      refine oV (kJ (n := 16) 1 V.s3 rfl WH (by (simp only [List.length_set]; omega)) rfl rfl)<|(Q6) ?_
      refine oV (BB rfl rfl)<|(Q7) ?_
      refine cu (x7 (n := 16) 1 V.s3 rfl rfl rfl (by exact IP) (by (simp only [List.length_set]; omega)) rfl (by exact Nat.le_of_ble_eq_true rfl) rfl)<|(A9) ?_
      have hok2 := ae.Aw hok (by omega)
      (obtain ⟨e1, e2, e3, e4⟩ := ae.step_pos hk2 (hg.trans hg2) (by omega) (by omega); rw [e1, e2, e3, e4]; exact j3 (k + 1) _ _ ⟨⟨by omega, hok2⟩, by omega⟩ (bN ln) (sub (.cons jJ (aq (.cons ay (.cons ay (.cons ay .nil))))) bC))
     ·refine jz TT 7 rfl (by omega) ?_
      have hok2 := ae.Aw hok (by omega)
      (obtain ⟨e1, e2, e3⟩ := ae.Du hk2 (hg.trans hg2) (by omega); rw [← e1, ← e2, ← e3]; exact j3 (k + 1) _ _ ⟨⟨by omega, hok2⟩, by omega⟩ (bN ln) (sub (kp .nil) ao))
  ·refine (Qp) ?_
   have hkn : k = ls.length := by omega
   subst hkn
   rw [List.take_length] at *
   have hvv := ae.LR hok (Nat.le_refl _)
   have hcl := ae.jl ls
   have hE0 := ae.Kl (by omega) hvv
   refine wN [pz 0 [] [4], pz 1 [0] [], pz 3 [1] [], pz 7 [2] [], pz 0 [] [4], pz 16 [4] [], pz 48 [5] [], pz 112 [6] [], pz 240 [7] [], pz 511 [3, 8] [], pz 1023 [9] []] [⟨fun y => ai b18 275 (CA [.slice (some ⟨b16, 0, none⟩) ls.length ls.length] .i64 (ae.bJ ls) [.slice po (ae.cC ls).length co, .int .i64 (ae.bX ls)]), none, none, [3, 7]⟩, ⟨fun y => Row I3 po (ae.cC ls).length co (ae.cC ls), none, none, []⟩, ⟨fun y => Row o9 (some ⟨b16, 0, none⟩) ls.length ls.length (List.replicate ls.length (0, 0)), none, none, []⟩, ⟨fun y => ai b1 47 [.slice p ls.length cap], none, none, []⟩, ⟨fun y => R, none, none, []⟩] F V.mixed<|nM<|nN<|nG V.xG<|nR (fun y FF hA => vp V.a229 rfl aA (by omega) rfl)<|nM<|nN<|nG V.On<|nR (fun y FF hA => kJ (n := 16) 0 V.ml rfl aA (by omega) rfl rfl)<|nV (fun y hA L => jY (ty' := 0) Tryz.underlying47 rfl)<|nE (fun y FF hA => aX (Post := []) (Me (ae.bJ ls) _ (ae.jl _) (ae.oh (by omega))) V.X6 rfl .nil (fun v G h => by rcases h with ⟨rfl, rfl⟩; exact ⟨rfl, .refl _⟩))<|nV (fun y hA L => lG rfl)<|(Qb) ?_
   intro y hA
   clear hA
   refine bg<|bD _ (.cons (d := 1) rfl (.cons (d := 4) rfl (.cons (d := 74) rfl (.nil _))))<|bb (M := ai b18 275 (CA [.slice (some ⟨b16, 0, none⟩) ls.length ls.length] .i64 (ae.bJ ls) [.slice po (ae.cC ls).length co, .int .i64 (ae.bX ls)]) :: Row I3 po (ae.cC ls).length co (ae.cC ls) :: Row o9 (some ⟨b16, 0, none⟩) ls.length ls.length (List.replicate ls.length (0, 0)) :: ai b1 47 [.slice p ls.length cap] :: R :: F) (fun _ _ h => h) ?_
   refine tz rfl (fun h74 => ?_) (fun h74 => ?_)
   ·refine (Q9) ?_
    have hE : ae.a8 ls = 4 := by rw [hE0, if_neg (by simpa using h74)]
    refine (Qp) ?_
    exact ag (eC rfl rfl) (.inr ⟨by rw [hE]; decide, by rw [hE], rfl⟩) (sub (.cons iG .nil) k6)
   ·refine (Q4) ?_
    have hE : ae.a8 ls = 0 := by rw [hE0, if_pos (by simpa using h74)]
    have hV := (ae.kL hE).1
    have hW := (ae.kL hE).2
    have hpl := ae.xw hV
    have hpn := ae.uP ls
    refine Ny (A := [ai b1 47 [.slice p ls.length cap], R]) (.cons dw (.cons dw .nil))<|(Q5) ?_
    refine oV (kJ (n := 16) 0 V.ml rfl dM (by omega) rfl rfl)<|oV (BA (fs := []) (cs := [_]) rfl rfl)<|aj (Lc po (ae.cC ls).length co 217 [] [.pointer (some ⟨b1, 0, none⟩)] (oZ [ai b1 47 [.slice p ls.length cap], R]) (ae.key ls) (fun x => 0 ≤ x ∧ x < ls.length) V.Xn (fun x y hx hy => (RZ p ls.length cap ls R hR b1 x y hx hy).star) (ae.cC ls) (by omega) (ae.Kv ls)) V.XO  rfl (.cons bj (aq .nil)) rfl ?_
    rintro _ _ ⟨rfl, l2, hR2, hS2, rfl⟩
    obtain rfl := ae.Gb hvv hR2 hS2
    refine (Qe) ?_
    refine Hm ay ?_
    rw [hpl]
    refine (nS) ?_
    refine oV (kJ (n := 16) 0 V.ml rfl ig (by omega) rfl rfl)<|(Q3) ?_
    rw [← ae.zr]
    refine cB (fun (k : Nat) => [(1, .pointer (some ⟨b1, 0, none⟩)), (4, .pointer (some ⟨b18, 0, none⟩)), (7, .int .i64 (ae.xN ls k)), (8, .int .i64 (ae.mI ls k)), (84, .slice po (ae.ord ls).length co), (85, .int .i64 ((ae.ord ls).length : Int)), (86, .int .i64 (k : Int))]) (fun (k : Nat) => ai b18 275 (CA [.slice (some ⟨b16, 0, none⟩) ls.length ls.length] .i64 (ae.bJ ls) [.slice po (ae.ord ls).length co, .int .i64 (ae.bX ls)]) :: Row I3 po (ae.ord ls).length co (ae.ord ls) :: Row o9 (some ⟨b16, 0, none⟩) ls.length ls.length (ae.gY ls k) :: ai b1 47 [.slice p ls.length cap] :: R :: F) (fun (k : Nat) => k ≤ (ae.ord ls).length) (fun (k : Nat) => (ae.ord ls).length - k) (i1 (0) ?_ (jg (bN ln)) (sub (.cons dw (.cons bj (.cons bj (aT .nil)))) ao)) ?_
    ·exact Nat.zero_le _
    intro k
    rintro hk
    refine (Qm) ?_
    refine aF rfl (fun h87 => ?_) (fun h87 => ?_)
    ·refine (Qg) ?_
     have hk2 : k < (ae.ord ls).length := by omega
     obtain ⟨s, hs⟩ := ae.XB hW hk2
     have hgs : I3.g (ae.ord ls) (k : Int) = (s : Int) := by rw [← hs.sym]; simp [Ec.g]
     have hsl := hs.lt
     refine (Qo) ?_
     refine oV (xI V.cA (own dM))<|oV (xL V.s3 (own dM))<|(Q8) ?_
     rw [hgs]
     have hls : I3.g ls (s : Int) = (ae.lenOf ls s : Int) := by rw [← hs.len]; simp [Ec.g]
     have hs1 := hs.top
     have hs2 := hs.nn
     have mL := hs.ge
     have hs4 := hs.w0
     have hs5 : ae.eU ls s < 32768 := by have := ae.qh hs.top; have := hs.w1; omega
     refine (Qa) ?_
     refine oV (az V.ml rfl ig rfl)<|(Q6)<|(N8)<|(vA) ?_
     refine oV (gS (r := ae.eU ls s) rfl rfl (by omega) (HU hs hls))<|(Q3) ?_
     refine oV (az V.ml rfl ig rfl)<|(Q6)<|(N8)<|(Q8) ?_
     rw [hls]
     refine (Q5) ?_
     refine oV (az V.Xc rfl aA rfl)<|(Qe) ?_
     refine oV (c5 V.Tm V.Ro rfl (cs := [_, _]) rfl)<|oV (xI V.JJ (own dL))<|cu (Ga (c := (o9)) ((ae.eU ls s, (ae.lenOf ls s : Int))) V.Yc rfl rfl (by exact zf) (by omega) (by omega) rfl)<|iP TT 13 rfl (by omega) ?_
     have en : ae.eU ls s + 1 = ae.xN ls (k + 1) := by simp only [ae.xN]; rw [hs.sym]; simp
     have el : (ae.lenOf ls s : Int) = ae.mI ls (k + 1) := by simp only [ae.mI]; rw [hs.sym]; simp
     rw [Int.toNat_natCast, ← ae.zk hk2 hs, en, el]
     refine j1 (k + 1) ?_ (jg (bN ln)) (sub (kp .nil) ao)
     exact ⟨by omega, by omega⟩
    ·exact rC TT 13 rfl<|ag (eC rfl rfl) (.inl ⟨hE, b18, rfl, rfl⟩) ((aM (aq (.cons ay (.cons dg .nil))) ao (fun w0 h hh => ob (ae.Cx hV (by omega)) hh)).trans (sub (aq (.cons ay .nil)) bC))
end Go.Proofs.YtmaiakpjgomnpaaGreat
namespace Go.Proofs.YtmaiakpjgomnpaaGreat
open Go.Sl 
theorem nD (p : Option Addr) (cap : Nat) (B : List Int) (R : ab) (hR : ∀ w0 h, R w0 h → aE U5 p B.length B w0 h) (hl : B.length < 500000000) : aC Tryz.prog 91 [.slice p B.length cap] [R] (aG fun v G => ∃ q c, v = .slice q B.length c ∧ G = [Row U5 q B.length c B, R]) := by
 refine au [(0, _)] Tryz.func91 rfl Tryz.ntmps91 rfl rfl ?_
 intro w0 F
 refine gU (fun w hi => OG (List.mem_cons_self ..) hR hi) (fun hp => ?_)
 refine (QW) ?_
 refine oV (Gj Tryz.underlying22 rfl rfl)<|(Q7) ?_
 refine tz rfl (fun h4 => ?_) (fun h4 => ?_)
 ·refine (Qp) ?_
  obtain rfl : p = none := by cases p with | none => rfl | some _ => simp at h4
  obtain rfl : B = [] := hp rfl
  exact ag (aw rfl) ⟨none, 0, rfl, rfl⟩ ((cZ (fun w0 => Row.nil _ _ _)).trans (sub (aT .nil) ao))
 ·refine (Q5) ?_
  refine cM (U5) [] V.bK V.z5 rfl rfl rfl rfl rfl rfl ?_
  intro b5
  refine (Q6) ?_
  refine ff (c := (U5)) V.bK V.z5 rfl rfl rfl rfl dg (by exact bG hR dM) (by omega) rfl ?_
  intro p7 c7
  refine (Q8) ?_
  exact ag (aw rfl) ⟨p7, c7, by rw [Nat.zero_add], by rw [Nat.zero_add, List.nil_append]⟩ (sub (aT .nil) ao)
theorem MT (b : Nat) (B : List Int) (at_ : Nat) (out : List Int) (free : Int) (hl : B.length < 500000000) (ha : at_ ≤ 8 * B.length) : aC Tryz.prog 128 [.pointer (some ⟨b, 0, none⟩)] [LW b B at_ out free] (aG fun v G => v = .int .i64 (8 * (B.length : Int) - (at_ : Int)) ∧ G = [LW b B at_ out free]) := by
 refine au [(0, _)] Tryz.func128 rfl Tryz.ntmps128 rfl rfl ?_
 intro w0 F
 refine (qg) ?_
 rintro ⟨p1, c1, p2, c2⟩ _
 dsimp only
 refine (QV) ?_
 refine wN [pz 0 [] [0], pz 1 [0] [], pz 3 [1] [], pz 7 [2] [], pz 15 [3] [], pz 31 [4] [], pz 0 [] [0], pz 64 [6] [], pz 192 [7] [], pz 448 [8] [], pz 1023 [5, 9] [], pz 2047 [10] []] [⟨fun y => ai b 236 [.slice p1 B.length c1, .slice p2 out.length c2, .int .i64 (at_ : Int), .int .i64 free], none, none, [3, 9]⟩, ⟨fun y => Row U5 p1 B.length c1 B, none, none, []⟩, ⟨fun y => Row U5 p2 out.length c2 out, none, none, []⟩] F V.mixed ?_
 refine nM ?_
 refine nN ?_
 refine nG V.DY ?_
 refine (pY) ?_
 refine (yj) ?_
 refine (OJ) ?_
 refine nM ?_
 refine nN ?_
 refine nG V.xc ?_
 refine (Qv) ?_
 refine (vF) ?_
 refine nA ?_
 refine (Qb) ?_
 intro y hA
 clear hA
 refine bg ?_
 refine (Jy) ?_
 refine (VL) ?_
 refine (Q9) ?_
 exact ag (aw rfl) ⟨rfl, rfl⟩ (aM (fQ .nil) ao (fun w0 h hh => nZ hh))
theorem Ta (b : Nat) (B : List Int) (at_ : Nat) (out : List Int) (free : Int) (n : Int) (hl : B.length < 500000000) (ha : at_ ≤ 8 * B.length) (hn : 0 ≤ n ∧ n ≤ 24 ∧ n ≤ 8 * (B.length : Int) - at_) : aC Tryz.prog 92 [.pointer (some ⟨b, 0, none⟩), .int .i64 n] [LW b B at_ out free] (aG fun v G => v = .tuple #[] ∧ G = [LW b B at_ out free]) := by
 refine (Ru) ?_
 intro w0 F
 refine rT TT 3 rfl ?_
 refine (QM) ?_
 refine (Q7) ?_
 refine (Q0) ?_
 refine (Qq) ?_
 refine (Q8) ?_
 refine (Q0) ?_
 refine (M8) ?_
 rintro _ _ ⟨rfl, rfl⟩
 refine (Q0) ?_
 refine (Qq) ?_
 refine (Q3) ?_
 exact gv ez ⟨rfl, rfl⟩ (sub (aq .nil) ao)
theorem NU (b : Nat) (B : List Int) (at_ : Nat) (out : List Int) (free : Int) (n : Int) (hl : B.length < 500000000) (ha : at_ ≤ 8 * B.length) (hn : 0 ≤ n ∧ n ≤ 24 ∧ 8 * (B.length : Int) - at_ < n) : aC Tryz.prog 92 [.pointer (some ⟨b, 0, none⟩), .int .i64 n] [LW b B at_ out free] (rE fun ch G => ch = jC 194 (.agg #[]) ∧ G = [LW b B at_ out free]) := by
 refine (Ru) ?_
 intro w0 F
 refine rT TT 3 rfl ?_
 refine (QM) ?_
 refine (Q7) ?_
 refine (Q0) ?_
 refine (Qq) ?_
 refine (Q8) ?_
 refine (Q0) ?_
 refine (M8) ?_
 rintro _ _ ⟨rfl, rfl⟩
 refine (Q0) ?_
 refine (Qt) ?_
 refine (Q3) ?_
 refine oV (c5 V.TU V.z194 rfl (cs := []) rfl) ?_
 refine oV (uK V.BL rfl) ?_
 refine uM rfl ?_
 skip
 exact wJ (G := [LW b B at_ out free]) ⟨rfl, rfl⟩ (sub (aq .nil) ao)
theorem M7 (b : Nat) (B : List Int) (at_ : Nat) (out : List Int) (free : Int) (hl : B.length < 500000000) (hB : af.ak B) (ha : at_ < 8 * B.length) : aC Tryz.prog 204 [.pointer (some ⟨b, 0, none⟩)] [LW b B at_ out free] (aG fun v G => v = .int .i64 (af.hH B at_) ∧ G = [LW b B (at_ + 1) out free]) := by
 refine au [(0, _)] Tryz.func204 rfl Tryz.ntmps204 rfl rfl ?_
 intro w0 F
 refine (qg) ?_
 rintro ⟨p1, c1, p2, c2⟩ _
 dsimp only
 have hq : U5.g B ((at_ : Int) / 8) = B.getD (at_ / 8) 0 := gE (at_ / 8) (by omega)
 have hb := hB.get (at_ / 8)
 have hd := af.xb hb.1 hb.2 (at_ % 8)
 have hb2 := af.lS B at_
 refine (QV) ?_
 refine wN [pz 0 [] [0], pz 1 [0] [], pz 3 [1] [], pz 7 [2] [], pz 15 [3] [], pz 0 [] [0], pz 32 [5] [], pz 96 [6] [], pz 224 [7] [], pz 480 [8] [], pz 992 [9] [], pz 2047 [4, 10] [], pz 4095 [11] [], pz 0 [] [0], pz 8192 [13] [], pz 24576 [14] [], pz 57344 [15] [], pz 122880 [16] [], pz 253952 [17] [], pz 524287 [12, 18] [], pz 1048575 [19] []] [⟨fun y => ai b 236 [.slice p1 B.length c1, .slice p2 out.length c2, .int .i64 (at_ : Int), .int .i64 free], none, none, [4, 9, 17]⟩, ⟨fun y => Row U5 p1 B.length c1 B, none, none, [11, 12]⟩, ⟨fun y => Row U5 p2 out.length c2 out, none, none, []⟩] F V.mixed ?_
 refine nM ?_
 refine nN ?_
 refine nG V.yu ?_
 refine nG V.DY ?_
 refine (pY) ?_
 refine nM ?_
 refine nN ?_
 refine nG V.yu ?_
 refine nG V.xc ?_
 refine (Qv) ?_
 refine (Vd) ?_
 refine (IK) ?_
 refine nR (fun y FF hA => xL V.s5 (own aA)) ?_
 refine nM ?_
 refine nN ?_
 refine nG V.yu ?_
 refine nG V.xc ?_
 refine (Qv) ?_
 refine (SH) ?_
 refine nV (fun y hA L => dP (r := B.getD (at_ / 8) 0 / 2 ^ (at_ % 8)) rfl rfl (by omega) (by rw [hq]; exact af.Rn hb.1 (by omega) (by omega))) ?_
 refine nA ?_
 refine (Qb) ?_
 intro y hA
 clear hA
 refine bg<|bD _ (.cons (d := 0) rfl (.cons (d := 3) rfl (.nil _)))<|(VL)<|(Qd)<|(Ql)<|(vK)<|(pL)<|(Q3) ?_
 refine oV (jG (r := af.hH B at_) rfl rfl (af.yW hd.1 hd.2))<|(qa)<|(Q8) ?_
 rw [show (at_ : Int) + 1 = ((at_ + 1 : Nat) : Int) from by omega]
 exact ag (aw rfl) ⟨rfl, rfl⟩ (aM (fQ .nil) ao (fun w0 h hh => nZ hh))
theorem eM (b : Nat) (B : List Int) (at_ : Nat) (out : List Int) (free : Int) (n : Nat) (hl : B.length < 500000000) (hB : af.ak B) (hn : n ≤ 24) (ha : at_ + n ≤ 8 * B.length) : aC Tryz.prog 183 [.pointer (some ⟨b, 0, none⟩), .int .i64 (n : Int)] [LW b B at_ out free] (aG fun v G => v = .int .i64 (af.aK B at_ n) ∧ G = [LW b B (at_ + n) out free]) := by
 refine au [(0, _), (1, _)] Tryz.func183 rfl Tryz.ntmps183 rfl rfl ?_
 intro w0 F
 refine rT TT 11 rfl<|aj (Ta b B at_ out free n hl (by omega) (by omega)) V.RS  rfl (aq .nil) rfl ?_
 rintro _ _ ⟨rfl, rfl⟩
 refine (QK) ?_
 refine cB (fun (k : Nat) => [(0, .pointer (some ⟨b, 0, none⟩)), (5, .int .i64 (af.aK B at_ k)), (12, .int .i64 (n : Int)), (13, .int .i64 (k : Int))]) (fun (k : Nat) => LW b B (at_ + k) out free :: F) (fun (k : Nat) => k ≤ n) (fun (k : Nat) => n - k) (i1 (0) ?_ (eQ ln) (sub (aq .nil) ao)) ?_
 ·exact Nat.zero_le _
 intro k
 rintro hk
 refine (Qm) ?_
 refine aF rfl (fun h14 => ?_) (fun h14 => ?_)
 ·refine (QB) ?_
  have hb := af.lS B (at_ + k)
  have hnb := af.bF B at_ k
  refine (Q4) ?_
  refine aj (M7 b B (at_ + k) out free hl hB (by omega)) V.Xj  rfl (aq .nil) rfl ?_
  rintro _ _ ⟨rfl, rfl⟩
  refine (Q6) ?_
  refine oV (gS (r := af.hH B (at_ + k) * 2 ^ k) rfl rfl (by omega) (af.S9 hb (by omega) rfl))<|oV (ow (r := af.aK B at_ k + af.hH B (at_ + k) * 2 ^ k) rfl rfl (af.TN hnb.1 hnb.2 hb (by omega)))<|(QG) ?_
  refine j1 (k + 1) ?_ (eQ ln) (sub (aq .nil) ao)
  exact ⟨by omega, by omega⟩
 ·refine rC TT 12 rfl ?_
  obtain rfl : k = n := by omega
  exact ag (aw rfl) ⟨rfl, rfl⟩ (sub (aq .nil) ao)
theorem fw (b : Nat) (B : List Int) (at_ : Nat) (out : List Int) (free : Int) (n : Nat) (hl : B.length < 500000000) (hB : af.ak B) (hn : n ≤ 24) (ha : at_ ≤ 8 * B.length) (hx : 8 * B.length < at_ + n) : aC Tryz.prog 183 [.pointer (some ⟨b, 0, none⟩), .int .i64 (n : Int)] [LW b B at_ out free] (rE fun ch G => ch = jC 194 (.agg #[]) ∧ G = [LW b B at_ out free]) := by
 refine au [(0, _), (1, _)] Tryz.func183 rfl Tryz.ntmps183 rfl rfl ?_
 intro w0 F
 refine rT TT 11 rfl<|c9 (NU b B at_ out free n hl ha (by omega)) V.RS rfl (aq .nil) ?_
 rintro _ _ ⟨rfl, rfl⟩
 refine (cS ?_)
 exact wJ (G := [LW b B at_ out free]) ⟨rfl, rfl⟩ (sub (aq .nil) ao)
theorem SE (b : Nat) (B : List Int) (at_ : Nat) (out : List Int) (free : Int) (hl : B.length < 500000000) (ha : at_ ≤ 8 * B.length) : aC Tryz.prog 170 [.pointer (some ⟨b, 0, none⟩)] [LW b B at_ out free] (aG fun v G => v = .int .i64 (8 * (B.length : Int) - (at_ : Int)) ∧ G = [LW b B at_ out free]) := by
 refine au [(0, _)] Tryz.func170 rfl Tryz.ntmps170 rfl rfl ?_
 intro w0 F
 refine (QW)<|(D1)<|(Qi)<|(M8) ?_
 rintro _ _ ⟨rfl, rfl⟩
 refine (Q8) ?_
 exact ag (aw rfl) ⟨rfl, rfl⟩ (sub (aq .nil) ao)
theorem G2 (p : Option Addr) (cap : Nat) (B : List Int) (R : ab) (hR : ∀ w0 h, R w0 h → aE U5 p B.length B w0 h) (hl : B.length < 500000000) : aC Tryz.prog 166 [.slice p B.length cap] [R] (aG fun v G => ∃ b, v = .pointer (some ⟨b, 0, none⟩) ∧ G = [LW b B 0 [] 0, R]) := by
 refine au [(0, _)] Tryz.func166 rfl Tryz.ntmps166 rfl rfl ?_
 intro w0 F
 refine (QJ) ?_
 refine aj (nD p cap B R hR hl) V.zw  rfl (aq .nil) rfl ?_
 rintro _ _ ⟨q, c, rfl, rfl⟩
 refine (UL) ?_
 refine oV (c5 V.S3 V.z236 rfl (cs := [.slice q B.length c, .slice none 0 0, .int .i64 0, .int .i64 0]) rfl)<|(Vs) ?_
 intro b7
 refine (Q8) ?_
 exact ag (aw rfl) ⟨b7, rfl, rfl⟩ ((cZ (A := Row U5 none 0 0 []) (fun w0 => Row.nil _ _ _)).trans ((aM (.cons ay (.cons ay (aq .nil))) ao (fun w0 h hh => nZ (p1 := q) (c1 := c) (p2 := none) (c2 := 0) (B := B) (out := []) (at_ := 0) (free := 0) hh)).trans (sub (aT .nil) ao)))
end Go.Proofs.YtmaiakpjgomnpaaGreat
namespace Go.Proofs.YtmaiakpjgomnpaaGreat
open Go.Sl 
end Go.Proofs.YtmaiakpjgomnpaaGreat
namespace Go.Proofs.YtmaiakpjgomnpaaGreat
open Go.Sl 
attribute [local irreducible] ae.ord ae.gY ae.cC ae.bJ ae.bX ae.words ae.eU ae.lenOf ae.a8 ae.fM
attribute [local irreducible] ae.Xf ae.sy
end Go.Proofs.YtmaiakpjgomnpaaGreat
namespace Go.Proofs.YtmaiakpjgomnpaaGreat
open Go.Sl 
attribute [local irreducible] ae.ord ae.gY ae.cC ae.bJ ae.bX ae.words ae.eU ae.lenOf ae.a8 ae.fM ae.wd ae.lq ae.jI ae.ns ae.cls ae.off ae.tk
set_option maxHeartbeats 2000000 in
theorem PX (b : Nat) (ls : List Int) (b2 : Nat) (B : List Int) (at_ : Nat) (out : List Int) (free : Int) (hE : ae.a8 ls = 0) (hl : B.length < 500000000) (hB : af.ak B) (ha : at_ ≤ 8 * B.length) : aC Tryz.prog 201 [.pointer (some ⟨b, 0, none⟩), .pointer (some ⟨b2, 0, none⟩)] [HC b ls, LW b2 B at_ out free] (tW (fun v G => ∃ n s, ae.tk ls B at_ = .vb n s ∧ v = .int .i64 s ∧ G = [HC b ls, LW b2 B (at_ + n) out free]) (fun ch G => (∃ n, ae.tk ls B at_ = .short n ∧ ch = jC 194 (.agg #[]) ∧ G = [HC b ls, LW b2 B (at_ + n) out free]) ∨ (∃ n, ae.tk ls B at_ = .none_ n ∧ ch = jC 237 (.agg #[]) ∧ G = [HC b ls, LW b2 B (at_ + n) out free]))) := by
 refine au [(0, _), (1, _)] Tryz.func201 rfl Tryz.ntmps201 rfl rfl ?_
 intro w0 F
 have hV := (ae.kL hE).1
 have hW := (ae.kL hE).2
 have hcl := ae.jl ls
 have hCb := ae.oh hV.1
 have hm15 := ae.Su hV
 have hme := ae.Pa ls
 refine (qg) ?_
 rintro ⟨p1, c1, p2, c2⟩ _
 dsimp only
 rw [hme]
 refine rT TT 19 rfl ?_
 rw [show ((7 : Nat), Value.int .i64 0) = (7, .int .i64 (ae.off ls (0 + 1) : Int)) from by unfold ae.off; rfl]
 refine cB (fun (m : Nat) => [(0, .pointer (some ⟨b, 0, none⟩)), (1, .pointer (some ⟨b2, 0, none⟩)), (5, .int .i64 (af.acc B at_ m)), (6, .int .i64 (ae.base ls m + ae.cnt ls m)), (7, .int .i64 (ae.off ls (m + 1) : Int)), (8, .int .i64 ((m : Int) + 1))]) (fun (m : Nat) => ai b 275 (CA [.slice p1 ls.length c1] .i64 (ae.bJ ls) [.slice p2 (ae.ord ls).length c2, .int .i64 (ae.kg ls : Int)]) :: Row o9 p1 ls.length c1 (ae.words ls) :: Row I3 p2 (ae.ord ls).length c2 (ae.ord ls) :: LW b2 B (at_ + m) out free :: F) (fun (m : Nat) => ae.Tk ls B at_ m) (fun (m : Nat) => ae.kg ls - m) (i1 (0) ?_ (jy (bN ln)) (sub (mH .nil) ao)) ?_
 ·exact ae.GJ ha
 intro m
 rintro ht
 have htl := ht.le
 refine rL TT 7 rfl<|oV (kJ (n := 16) 1 V.s3 rfl aA (by omega) rfl rfl)<|(Qe) ?_
 refine aF rfl (fun h14 => ?_) (fun h14 => ?_)
 ·have hcn := ae.MU (ls := ls) (m := m) (by omega)
  have hbf := ae.Ba hW (n := m + 1) (by omega)
  have hbn := ae.qU ls (m + 1)
  have hc1 := ae.gO ls (m + 1)
  have hof := ae.EI hV (m := m) (by omega)
  have hac := af.oW B at_ (m + 1)
  have hac0 := af.oW B at_ m
  have hp15 := ae.qh (show m + 1 ≤ 15 by omega)
  have hp14 := ae.qh (show m ≤ 15 by omega)
  have hb := af.lS B (at_ + m)
  have hnn := ht.nn
  refine (Q5) ?_
  rcases (Nat.lt_or_ge (at_ + m) (8 * B.length)) with hx | hx
  ·refine (Q4)<|(U1)<|(Q6) ?_
   refine aj (eM b2 B (at_ + m) out free 1 hl hB (by omega) (by omega)) V.eh  rfl (.cons dw .nil) rfl ?_
   rintro _ _ ⟨rfl, rfl⟩
   rw [af.xF]
   refine oV (ow (r := af.acc B at_ (m + 1)) rfl rfl (af.EA hac0.1 (by omega) hb))<|(Q1) ?_
   refine oV (gS (r := ae.base ls (m + 1)) rfl rfl (by decide) (F2 hW (by omega)))<|iP TT 13 rfl (by omega)<|(PB)<|(NV)<|(Qe) ?_
   refine aF rfl (fun h33 => ?_) (fun h33 => ?_)
   ·refine (Q9) ?_
    have hlt : af.acc B at_ (m + 1) - ae.base ls (m + 1) < ae.cnt ls (m + 1) := by rw [← hcn]; exact h33
    have hat := ae.O4 (by omega) hnn hlt
    have hol : (ae.ord ls).length ≤ 320 := by rw [ae.uH]; exact ae.EI hV (m := 15) (by omega)
    refine (Q5) ?_
    refine oV (kJ (n := 16) 0 V.ml rfl dM (by omega) rfl rfl)<|(xC) ?_
    refine oV (xI V.cA (own ig))<|oV (xL V.s3 (own ig))<|(Qi) ?_
    rw [← hme]
    exact Ni (G := [HC b ls, LW b2 B (at_ + (m + 1)) out free]) (aw rfl) ⟨m + 1, _, ht.vb (by omega) hx hlt, by rw [← gE (c := I3) (e := (ae.off ls (m + 1) : Int) + af.acc B at_ (m + 1) - ae.base ls (m + 1)) _ (by omega)], rfl⟩ ((aM (.cons ay (.cons ay (.cons ay .nil))) ao (fun w0 h hh => ob rfl hh)).trans (sub (aT .nil) ao))
   ·refine (oO)<|(PB)<|(NV)<|(Bi)<|(PB)<|(NV)<|(Bi) ?_
    rw [hcn, ← ae.qE ls (m + 1), show (m : Int) + 1 = ((m + 1 : Nat) : Int) from by omega]
    refine j1 (m + 1) ?_ (jy (bN ln)) (sub (.cons ay (.cons ay (.cons ay (aq .nil)))) ao)
    exact ⟨ht.X8 (by omega) hx (by rw [← hcn]; assumption), by omega⟩
  ·refine (Q4)<|(U1)<|(Q6) ?_
   refine c9 (fw b2 B (at_ + m) out free 1 hl hB (by omega) ht.room (by omega)) V.eh rfl (.cons dw .nil) ?_
   rintro _ _ ⟨rfl, rfl⟩
   refine (cS (ev (cS (cS (ev (cS ?_))))))
   rw [← hme]
   exact E9 (G := [HC b ls, LW b2 B (at_ + m) out free]) (.inl ⟨m, ht.short (by omega) (by omega), rfl, rfl⟩) ((aM (.cons ay (.cons ay (.cons ay .nil))) ao (fun w0 h hh => ob rfl hh)).trans (sub (aT .nil) ao))
 ·refine (Qd) ?_
  refine oV (c5 V.Up V.RK rfl (cs := []) rfl)<|oV (uK V.GW rfl)<|uM rfl ?_
  skip
  rw [← hme]
  exact E9 (G := [HC b ls, LW b2 B (at_ + m) out free]) (.inr ⟨m, ht.none (by omega), rfl, rfl⟩) ((aM (fQ .nil) ao (fun w0 h hh => ob rfl hh)).trans (sub (aT .nil) ao))
end Go.Proofs.YtmaiakpjgomnpaaGreat
namespace Go.Proofs.YtmaiakpjgomnpaaGreat
open Go.Sl 
theorem FO (p : Option Addr) (cap : Nat) (ls : List Int) (R : ab) (hR : ∀ w0 h, R w0 h → aE I3 p ls.length ls w0 h) (hE : ae.a8 ls = 0) : aC Tryz.prog 195 [.slice p ls.length cap] [R] (aG fun v G => ∃ b, v = .tuple #[.pointer (some ⟨b, 0, none⟩), .int .i64 0] ∧ G = [HC b ls, R]) := by
 refine (Iv p cap ls R hR).mono ?_
 rintro e G ⟨v, rfl, h⟩
 rcases h with ⟨_, b, h1, h2⟩ | ⟨h, _⟩
 ·exact ⟨v, rfl, b, h1, h2⟩
 ·exact absurd hE h
theorem Gp (p : Option Addr) (cap : Nat) (ls : List Int) (R : ab) (hR : ∀ w0 h, R w0 h → aE I3 p ls.length ls w0 h) (hE : ¬ ae.a8 ls = 0) : aC Tryz.prog 195 [.slice p ls.length cap] [R] (aG fun v G => v = .tuple #[.pointer none, .int .i64 (ae.a8 ls)] ∧ G = [R]) := by
 refine (Iv p cap ls R hR).mono ?_
 rintro e G ⟨v, rfl, h⟩
 rcases h with ⟨h, _⟩ | ⟨_, h1, h2⟩
 ·exact absurd h hE
 ·exact ⟨v, rfl, h1, h2⟩
end Go.Proofs.YtmaiakpjgomnpaaGreat
namespace Go.Proofs.YtmaiakpjgomnpaaGreat
open Go.Sl 
theorem ny (e : Int) : aC Tryz.prog 197 [.bool true, .int .i64 e] [] (aG fun v G => v = .tuple #[] ∧ G = []) := by
 refine au [(0, _), (1, _)] Tryz.func197 rfl Tryz.ntmps197 rfl rfl ?_
 intro w0 F
 refine (QJ) ?_
 exact gv ez ⟨rfl, rfl⟩ (sub .nil ao)
theorem kT (e : Int) : aC Tryz.prog 197 [.bool false, .int .i64 e] [] (rE fun ch G => ch = jC 27 (.int .i64 e) ∧ G = []) := by
 refine au [(0, _), (1, _)] Tryz.func197 rfl Tryz.ntmps197 rfl rfl ?_
 intro w0 F
 refine (QW) ?_
 refine oV (uK V.DB rfl)<|uM rfl ?_
 skip
 exact wJ (G := []) ⟨rfl, rfl⟩ (sub .nil ao)
theorem M3 (b bl : Nat) (sz mo : Int) (li di : Value) (s : ad.St) (yb : Int) (hy : 0 ≤ yb ∧ yb < 256) (hm : mo < 1000000000) : aC Tryz.prog 179 [.pointer (some ⟨b, 0, none⟩), .int .u8 yb] [MS b bl sz mo li di s] (gB (ad.dU mo s yb) (fun s2 v G => v = .tuple #[] ∧ G = [MS b bl sz mo li di s2]) [MX b bl sz mo]) := by
 refine au [(0, _), (1, _)] Tryz.func179 rfl Tryz.ntmps179 rfl rfl ?_
 intro w0 F
 refine (qg) ?_
 rintro ⟨po, co⟩ _
 dsimp only
 rcases (Classical.em ((s.out.length : Int) < mo)) with hx | hx
 ·refine rT TT 1 rfl ?_
  refine wN [pz 0 [] [0], pz 1 [0] [], pz 3 [1] [], pz 7 [2] [], pz 15 [3] [], pz 0 [] [0], pz 32 [5] [], pz 96 [6] [], pz 224 [7] [], pz 511 [4, 8] [], pz 1023 [9] []] [⟨fun y => ai b 223 [.pointer (some ⟨bl, 0, none⟩), .int .i64 sz, .int .i64 mo, .slice po s.out.length co, .bool s.ended, .int .i64 0, .int .i64 s.kind, .int .i64 (s.left : Int), .bool s.last, li, di, .int .i64 (s.ax : Int), .int .i64 (s.bA : Int)], none, none, [3, 8]⟩, ⟨fun y => Row U5 po s.out.length co s.out, none, none, []⟩] F V.mixed ?_
  refine nM ?_
  refine nN ?_
  refine nG V.jq ?_
  refine (pY) ?_
  refine (yj) ?_
  refine nM ?_
  refine nN ?_
  refine nG V.Ei ?_
  refine (Qv) ?_
  refine nV (fun y hA L => cJ (dW rfl rfl) hx) ?_
  refine nE (fun y FF hA => aX (Post := []) (ny 6) V.kG rfl .nil (fun v G h => by rcases h with ⟨rfl, rfl⟩; exact ⟨rfl, .refl _⟩)) ?_
  refine (Qb) ?_
  intro y hA
  clear hA
  refine bg<|bD _ (.cons (d := 0) rfl (.cons (d := 1) rfl (.nil _)))<|bb (M := ai b 223 [.pointer (some ⟨bl, 0, none⟩), .int .i64 sz, .int .i64 mo, .slice po s.out.length co, .bool s.ended, .int .i64 0, .int .i64 s.kind, .int .i64 (s.left : Int), .bool s.last, li, di, .int .i64 (s.ax : Int), .int .i64 (s.bA : Int)] :: Row U5 po s.out.length co s.out :: F) (fun _ _ h => h)<|(Qg)<|(vZ)<|(Q6) ?_
  refine cM (U5) [yb] V.bK V.z5 rfl rfl rfl rfl rfl rfl ?_
  intro oQ
  refine (Sr) ?_
  intro p22 c22
  refine (Q7)<|(Ws) ?_
  exact df<|gx (x := { s with out := s.out ++ [yb] }) (by unfold ad.dU; rw [if_pos hx]) ez ⟨rfl, rfl⟩ ((aM (.cons bj (aq .nil)) bC (fun w0 h hh => cT (s := { s with out := s.out ++ [yb] }) (by simp) hh)))
 ·refine rT TT 1 rfl ?_
  refine wN [pz 0 [] [0], pz 1 [0] [], pz 3 [1] [], pz 7 [2] [], pz 15 [3] [], pz 0 [] [0], pz 32 [5] [], pz 96 [6] [], pz 224 [7] [], pz 511 [4, 8] [], pz 1023 [9] []] [⟨fun y => ai b 223 [.pointer (some ⟨bl, 0, none⟩), .int .i64 sz, .int .i64 mo, .slice po s.out.length co, .bool s.ended, .int .i64 0, .int .i64 s.kind, .int .i64 (s.left : Int), .bool s.last, li, di, .int .i64 (s.ax : Int), .int .i64 (s.bA : Int)], none, none, [3, 8, 10]⟩, ⟨fun y => Row U5 po s.out.length co s.out, none, none, []⟩] F V.mixed ?_
  refine nM ?_
  refine nN ?_
  refine nG V.jq ?_
  refine (pY) ?_
  refine (yj) ?_
  refine nM ?_
  refine nN ?_
  refine nG V.Ei ?_
  refine (Qv) ?_
  refine nV (fun y hA L => bR (dW rfl rfl) hx) ?_
  refine aV (undef) _ _ (fun y => rfl) rfl (fun y => rfl) (fun y FF hA => fh (kT 6) V.kG rfl .nil (by rintro _ _ ⟨rfl, rfl⟩; exact kt (by unfold ad.dU; rw [if_neg hx]) (PE.no (by decide)) (aM (aq .nil) (by exact vx (M := FF) (F := F)) (fun w0 h hh => bO hh)))) ?_
  refine (Qb) ?_
  intro y hA
  exact (cI.fact (hA 10 (by exact Nat.le_of_ble_eq_true rfl)) (q := fun _ => False) rfl).elim
end Go.Proofs.YtmaiakpjgomnpaaGreat
namespace Go.Proofs.YtmaiakpjgomnpaaGreat
open Go.Sl 
attribute [local irreducible] ae.a8 ae.tk ae.ord ae.bJ ae.words ae.bX ad.gJ ad.gH
theorem Fc (p : Option Addr) (n cap : Nat) (ls : List Int) (R : ab) (hn : n = ls.length) (hR : ∀ w0 h, R w0 h → aE I3 p ls.length ls w0 h) : aC Tryz.prog 221 [.slice p n cap] [R] (gB (ad.im ls) (fun _ v G => ∃ b, v = .pointer (some ⟨b, 0, none⟩) ∧ G = [HC b ls, R]) []) := by
 subst hn
 refine au [(0, _)] Tryz.func221 rfl Tryz.ntmps221 rfl rfl ?_
 intro w0 F
 refine (QI) ?_
 rcases (Classical.em (ae.a8 ls = 0)) with hE | hE
 ·refine (Q4) ?_
  refine aj (FO p cap ls R hR hE) V.Rs  rfl (aq .nil) rfl ?_
  rintro _ _ ⟨bh, rfl, rfl⟩
  refine (Qi) ?_
  refine oV (cJ (da rfl rfl) rfl)<|(FG) ?_
  rintro _ _ ⟨rfl, rfl⟩
  refine (Qn) ?_
  exact jS (x := ()) (by unfold ad.im; rw [if_pos hE]) (aw rfl) ⟨bh, rfl, rfl⟩ (sub (aT .nil) ao)
 ·refine (Q4) ?_
  refine aj (Gp p cap ls R hR hE) V.Rs  rfl (aq .nil) rfl ?_
  rintro _ _ ⟨rfl, rfl⟩
  refine (Qi) ?_
  refine oV (bR (da rfl rfl) hE)<|(Ab) ?_
  rintro _ _ ⟨rfl, rfl⟩
  refine (cS ?_)
  exact dk (e := 4) (by unfold ad.im; rw [if_neg hE]) (PE.no (by decide)) (sub .nil bC)
theorem BS (x : Int) (n : Nat) (hn : n < 1000000) : aC Tryz.prog 220 [.int .i64 x, .int .i64 (n : Int)] [] (aG fun v G => ∃ p c, v = .slice p n c ∧ G = [Row I3 p n c (List.replicate n x)]) := by
 refine au [(0, _), (1, _)] Tryz.func220 rfl Tryz.ntmps220 rfl rfl ?_
 intro w0 F
 refine rT TT 18 rfl<|jk (Row I3 none 0 0 (List.replicate 0 x)) (Row.nil _ _ _) ?_
 refine gM (fun (k : Nat) (po : Option Addr) (co : Nat) => [(0, .int .i64 x), (5, .slice po k co), (6, .int .i64 (n : Int)), (7, .int .i64 (k : Int))]) (fun (k : Nat) (po : Option Addr) (co : Nat) => Row I3 po k co (List.replicate k x) :: F) (fun (k : Nat) (po : Option Addr) (co : Nat) => k ≤ n) (fun (k : Nat) (po : Option Addr) (co : Nat) => n - k) (i3 (0) (none) (0) ?_ (eQ ln) (sub (aq .nil) ao)) ?_
 ·exact Nat.zero_le _
 intro k po co
 rintro hk
 refine (Qm) ?_
 refine aF rfl (fun h8 => ?_) (fun h8 => ?_)
 ·refine (Qp) ?_
  refine cM (I3) [x] V.cA V.z3 rfl rfl rfl rfl rfl rfl ?_
  intro b11
  refine (UU) ?_
  intro p12 c12
  refine (QG) ?_
  rw [← List.replicate_succ']
  refine j3 (k + 1) (_) (_) ?_ (eQ ln) (sub (aq .nil) bC)
  exact ⟨by omega, by omega⟩
 ·refine rC TT 12 rfl ?_
  obtain rfl : k = n := by omega
  exact ag (aw rfl) ⟨po, co, rfl, rfl⟩ (sub (aq .nil) ao)
theorem K2  : aC Tryz.prog 222 [] [] (aG fun v G => ∃ p, v = .slice p 19 19 ∧ G = [Row I3 p 19 19 ad.lx]) := by
 refine au [] Tryz.func222 rfl Tryz.ntmps222 rfl rfl ?_
 intro w0 F
 refine rT TT 7 rfl<|cM (I3) [16, 17, 18, 0, 8, 7, 9, 6, 10, 5, 11, 4, 12, 3, 13, 2, 14, 1, 15] V.cA V.z3 rfl rfl rfl rfl rfl rfl ?_
 intro b1
 refine (Q8) ?_
 exact ag (aw rfl) ⟨_, rfl, rfl⟩ (sub (aq .nil) ao)
theorem Kg (b : Nat) (B : List Int) (at_ : Nat) (out : List Int) (free : Int) (hl : B.length < 500000000) (ha : at_ ≤ 8 * B.length) : aC Tryz.prog 198 [.pointer (some ⟨b, 0, none⟩)] [LW b B at_ out free] (aG fun v G => v = .tuple #[] ∧ G = [LW b B (ad.cR at_) out free]) := by
 refine au [(0, _)] Tryz.func198 rfl Tryz.ntmps198 rfl rfl ?_
 intro w0 F
 refine (qg) ?_
 rintro ⟨p1, c1, p2, c2⟩ _
 dsimp only
 refine (QV)<|(Ql)<|(vA)<|(pT)<|(vK)<|(pL) ?_
 refine df ?_
 rw [show ((at_ : Int) + 8 - 1) / 8 * 8 = ((ad.cR at_ : Nat) : Int) from by unfold ad.cR; omega]
 exact gv ez ⟨rfl, rfl⟩ (aM (fQ .nil) ao (fun w0 h hh => nZ hh))
theorem mC (b : Nat) (ls : List Int) (b2 : Nat) (B : List Int) (at_ : Nat) (out : List Int) (free : Int) (hE : ae.a8 ls = 0) (hl : B.length < 500000000) (hB : af.ak B) (ha : at_ ≤ 8 * B.length) : aC Tryz.prog 201 [.pointer (some ⟨b, 0, none⟩), .pointer (some ⟨b2, 0, none⟩)] [HC b ls, LW b2 B at_ out free] (gB (ad.sym ls B at_) (fun x v G => v = .int .i64 x.1 ∧ G = [HC b ls, LW b2 B x.2 out free]) []) := by
 intro w0 F w hi
 refine (PX b ls b2 B at_ out free hE hl hB ha w0 F w hi).mono ?_
 rintro e w' ⟨G, h1, (⟨v, rfl, n', s', h, rfl, rfl⟩ | ⟨ch, rfl, (⟨n', h, rfl, rfl⟩ | ⟨n', h, rfl, rfl⟩)⟩)⟩
 ·exact ⟨_, h1, .inl ⟨_, rfl, (s', at_ + n'), by unfold ad.sym; rw [h], rfl, rfl⟩⟩
 ·exact ⟨[], h1.right, .inr ⟨_, rfl, 2, by unfold ad.sym; rw [h], PE.end_, rfl⟩⟩
 ·exact ⟨[], h1.right, .inr ⟨_, rfl, 4, by unfold ad.sym; rw [h], PE.none_, rfl⟩⟩
end Go.Proofs.YtmaiakpjgomnpaaGreat
namespace Go.Proofs.YtmaiakpjgomnpaaGreat
open Go.Sl 
attribute [local irreducible] ae.a8 ae.tk ae.ord ae.bJ ae.words ae.bX ad.gJ ad.gH
theorem AQ (b bl : Nat) (sz mo : Int) (po : Option Addr) (no co : Nat) (li di : Value) (s : ad.St) : aC Tryz.prog 182 [.pointer (some ⟨b, 0, none⟩)] [ai b 223 [.pointer (some ⟨bl, 0, none⟩), .int .i64 sz, .int .i64 mo, .slice po no co, .bool s.ended, .int .i64 0, .int .i64 s.kind, .int .i64 (s.left : Int), .bool s.last, li, di, .int .i64 (s.ax : Int), .int .i64 (s.bA : Int)]] (aG fun v G => v = .tuple #[] ∧ G = [ai b 223 [.pointer (some ⟨bl, 0, none⟩), .int .i64 sz, .int .i64 mo, .slice po no co, .bool s.last, .int .i64 0, .int .i64 (-1), .int .i64 (s.left : Int), .bool s.last, li, di, .int .i64 (s.ax : Int), .int .i64 (s.bA : Int)]]) := by
 refine au [(0, _)] Tryz.func182 rfl Tryz.ntmps182 rfl rfl ?_
 intro w0 F
 refine (QV)<|(nJ)<|(Q7)<|(pL)<|(Q7)<|(zv) ?_
 exact df<|gv ez ⟨rfl, rfl⟩ (sub (aq .nil) ao)
set_option maxHeartbeats 1000000 in
theorem JK (b bl : Nat) (sz mo : Int) (po : Option Addr) (no co : Nat) (li di : Value) (s : ad.St) (B : List Int) (a : Nat) (sy : Int) (pl : Option Addr) (cl : Nat) (l : List Int) (hs : 0 ≤ sy ∧ sy ≤ 18) (hl : B.length < 500000000) (hB : af.ak B) (ha : a ≤ 8 * B.length) (hll : l.length < 1000000) : aC Tryz.prog 223 [.pointer (some ⟨b, 0, none⟩), .int .i64 sy, .slice pl l.length cl] [ai b 223 [.pointer (some ⟨bl, 0, none⟩), .int .i64 sz, .int .i64 mo, .slice po no co, .bool s.ended, .int .i64 0, .int .i64 s.kind, .int .i64 (s.left : Int), .bool s.last, li, di, .int .i64 (s.ax : Int), .int .i64 (s.bA : Int)], LW bl B a [] 0, Row I3 pl l.length cl l] (gB (ad.rep B sy l a) (fun x v G => v = .tuple #[.int .i64 x.1, .int .i64 x.2.1] ∧ G = [ai b 223 [.pointer (some ⟨bl, 0, none⟩), .int .i64 sz, .int .i64 mo, .slice po no co, .bool s.ended, .int .i64 0, .int .i64 s.kind, .int .i64 (s.left : Int), .bool s.last, li, di, .int .i64 (s.ax : Int), .int .i64 (s.bA : Int)], LW bl B x.2.2 [] 0, Row I3 pl l.length cl l]) [MX b bl sz mo]) := by
 refine au [(0, _), (1, _), (2, _)] Tryz.func223 rfl Tryz.ntmps223 rfl rfl ?_
 intro w0 F
 refine rT TT 19 rfl ?_
 refine aF rfl (fun h10 => ?_) (fun h10 => ?_)
 ·rcases (Nat.lt_or_ge (8 * B.length) (a + 2)) with hx | hx
  ·refine (Q9) ?_
   have hy : sy = 16 := h10
   subst hy
   have hnb := af.bF B a 2
   refine (Q5)<|(pM) ?_
   refine c9 (fw bl B a [] 0 2 hl hB (by omega) (by omega) (by omega)) V.eh rfl (.cons ay .nil) ?_
   rintro _ _ ⟨rfl, rfl⟩
   refine (cS (ev (cS ?_)))
   exact dk (e := 2) (ad.o5 (by decide) (show 8 * B.length < a + 2 from hx)) PE.end_ (aM (.cons ay .nil) fS (fun w0 h hh => bO hh))
  ·refine (Q9) ?_
   have hy : sy = 16 := h10
   subst hy
   have hnb := af.bF B a 2
   refine (Q5)<|(pM) ?_
   refine aj (eM bl B a [] 0 2 hl hB (by omega) (by omega)) V.eh  rfl (.cons ay .nil) rfl ?_
   rintro _ _ ⟨rfl, rfl⟩
   refine (vK) ?_
   rcases (Nat.eq_zero_or_pos l.length) with hl0 | hl0
   ·refine (Q5)<|(Qq)<|(Ab) ?_
    rintro _ _ ⟨rfl, rfl⟩
    refine (cS (ev (cS ?_)))
    exact dk (e := 4) (ad.HO rfl (List.length_eq_zero_iff.1 hl0) (show ¬ 8 * B.length < a + 2 from by omega)) (PE.no (by decide)) (aM (.cons ay .nil) fS (fun w0 h hh => bO hh))
   ·refine (Q5)<|(Qt)<|(FG) ?_
    rintro _ _ ⟨rfl, rfl⟩
    refine (Qe) ?_
    have hgl : I3.g l ((l.length : Int) - 1) = l.getD (l.length - 1) 0 := gE _ (by omega)
    refine jz TT 5 rfl (by omega)<|oV (xI V.cA (own dL))<|oV (xL V.s3 (own dL))<|(Qj) ?_
    rw [hgl]
    exact jS (x := (l.getD (l.length - 1) 0, 3 + af.aK B a 2, a + 2)) (ad.xt (by decide) (show ¬ 8 * B.length < a + 2 from by omega) (fun h => by rw [h.2] at hl0; simp at hl0)) (eC rfl rfl) ⟨rfl, rfl⟩ (sub (.cons ay (aT .nil)) ao)
 ·refine (Qd) ?_
  refine aF rfl (fun h29 => ?_) (fun h29 => ?_)
  ·rcases (Nat.lt_or_ge (8 * B.length) (a + 3)) with hx | hx
   ·refine (Q9) ?_
    have hy : sy = 17 := h29
    subst hy
    have hnb := af.bF B a 3
    refine (Q5)<|(pM) ?_
    refine c9 (fw bl B a [] 0 3 hl hB (by omega) (by omega) (by omega)) V.eh rfl (.cons ay .nil) ?_
    rintro _ _ ⟨rfl, rfl⟩
    refine (cS (ev (cS ?_)))
    exact dk (e := 2) (ad.o5 (by decide) (show 8 * B.length < a + 3 from hx)) PE.end_ (aM (.cons ay .nil) fS (fun w0 h hh => bO hh))
   ·refine (Q9) ?_
    have hy : sy = 17 := h29
    subst hy
    have hnb := af.bF B a 3
    refine (Q5)<|(pM) ?_
    refine aj (eM bl B a [] 0 3 hl hB (by omega) (by omega)) V.eh  rfl (.cons ay .nil) rfl ?_
    rintro _ _ ⟨rfl, rfl⟩
    refine (QG) ?_
    exact jS (x := (0, 3 + af.aK B a 3, a + 3)) (ad.xt (by decide) (show ¬ 8 * B.length < a + 3 from by omega) (fun h => absurd h.1 (by decide))) (eC rfl rfl) ⟨rfl, rfl⟩ (sub (.cons ay (aT .nil)) ao)
  ·refine (Qd) ?_
   refine aF rfl (fun h37 => ?_) (fun h37 => ?_)
   ·rcases (Nat.lt_or_ge (8 * B.length) (a + 7)) with hx | hx
    ·refine (Q9) ?_
     have hy : sy = 18 := h37
     subst hy
     have hnb := af.bF B a 7
     refine (Q5)<|(pM) ?_
     refine c9 (fw bl B a [] 0 7 hl hB (by omega) (by omega) (by omega)) V.eh rfl (.cons ay .nil) ?_
     rintro _ _ ⟨rfl, rfl⟩
     refine (cS (ev (cS ?_)))
     exact dk (e := 2) (ad.o5 (by decide) (show 8 * B.length < a + 7 from hx)) PE.end_ (aM (.cons ay .nil) fS (fun w0 h hh => bO hh))
    ·refine (Q9) ?_
     have hy : sy = 18 := h37
     subst hy
     have hnb := af.bF B a 7
     refine (Q5)<|(pM) ?_
     refine aj (eM bl B a [] 0 7 hl hB (by omega) (by omega)) V.eh  rfl (.cons ay .nil) rfl ?_
     rintro _ _ ⟨rfl, rfl⟩
     refine (QG) ?_
     exact jS (x := (0, 11 + af.aK B a 7, a + 7)) (ad.xt (by decide) (show ¬ 8 * B.length < a + 7 from by omega) (fun h => absurd h.1 (by decide))) (eC rfl rfl) ⟨rfl, rfl⟩ (sub (.cons ay (aT .nil)) ao)
   ·refine (nS) ?_
    exact jS (x := (sy, 1, a)) (ad.SF (by omega)) (eC rfl rfl) ⟨rfl, rfl⟩ (sub (fQ .nil) ao)
end Go.Proofs.YtmaiakpjgomnpaaGreat
namespace Go.Sl
section
variable {C : Ctx} {E : Env} {L F : List ab} {ops : Array Oper} {d : Option Nat} {ty : TypeId} {pos : String} {aft : Array Edge}
theorem n6 {A : Nat → ab} {f : FuncId} {args : List Operand} {tys : Array TypeId} {vs : List Value} {Pre Post : List ab} (hS : aC C.P f vs Pre (aG fun v G => ∃ b, v = .pointer (some ⟨b, 0, none⟩) ∧ G = A b :: Post)) (hb : aB C.P f = true) (hE : gG E args = some vs) (hL : eE L Pre F) :
    Step C ops ⟨d, .call ⟨.value (.func f), args.toArray, tys⟩, ty, pos, aft, none⟩ E L (fun v L' => v = .pointer (some ⟨ek v, 0, none⟩) ∧ True ∧ L'.Perm ((A (ek v) :: Post) ++ F)) :=
  rk hS hb hE hL fun v G ⟨b, e1, e2⟩ => by subst e1; subst e2; exact ⟨rfl, trivial, .refl _⟩
theorem iM {t n e sz : Nat} {parts : List (Nat × Operand)} {pv : List (Nat × Value)} {zs cs : List Value} (har : gq C.P t = some (n, e, sz)) (hz : cm C.P t = some zs) (hp : oq E parts = some pv) (hf : Instr.fill (fun i => some (i * sz, sz)) zs.toArray pv = some cs.toArray) :
    bB C (.build t parts.toArray) ty E L (.agg cs.toArray) L :=
  cF fun d pos aft g a w ha => by
    obtain ⟨i', z, hz1, hz2, hz3, hz4⟩ := jv hz
    have hmap : parts.toArray.map (fun x => match x with | (i, x) => (i, a.eval x)) = pv.toArray := by
      rw [← mw hp a ha]; simp
    unfold gq at har
    split at har
    · rename_i n' e' hfs
      split at har
      · rename_i i hi
        cases har
        simp only [execOp, hmap, Instr.build, Sem.run_bind, zeroValue, typeInfo, run_program, Result.andThen_ok, hz1, hz2, Sem.run_pure, run_underlying hfs, run_sizeOf hi, hz3]
        simp [hf]
      · cases har
    · cases har
end
theorem oo {p : Option Addr} {n c m : Nat} {l : List Int} {w0 : World} {h : Hp} (hn : n = l.length) (hm : m ≤ n) (hh : Row I3 p n c l w0 h) : aE I3 p (l.take m).length (l.take m) w0 h := by
  have := hh.rd.sub 0 m m (Nat.zero_le _) hm (Nat.le_refl _)
  rw [mU, Nat.sub_zero, List.drop_zero] at this
  rw [List.length_take, ← hn, Nat.min_eq_left hm]
  exact this
theorem wM {p : Option Addr} {n c m : Nat} {l : List Int} {w0 : World} {h : Hp} (hn : n = l.length) (hm : m ≤ n) (hc : n ≤ c) (hh : Row I3 p n c l w0 h) : aE I3 (dm p m c 1) (l.drop m).length (l.drop m) w0 h := by
  have := hh.rd.sub m n c hm (Nat.le_refl _) hc
  rw [List.take_of_length_le (by rw [List.length_drop]; omega)] at this
  rw [List.length_drop, ← hn]
  exact this
theorem uc {p : Option Addr} {n c : Nat} {l : List Int} {w0 : World} {h : Hp} (hn : n = l.length) (hh : Row I3 p n c l w0 h) : aE I3 p l.length l w0 h := by subst hn; exact hh.rd
end Go.Sl
namespace Go.Proofs.YtmaiakpjgomnpaaGreat
open Go.Sl 
attribute [local irreducible] ae.a8 ae.tk ae.ord ae.bJ ae.words ae.bX ad.gH ad.bT ad.cx ad.dj ad.hL ad.hD ad.hC ad.eB ad.told ad.fb ad.im ad.rep
abbrev P2 : Ec (Int × Int) := ⟨246, 2, fun x => [.int .i64 x.1, .int .i64 x.2], (0, 0), fun _ => rfl, fun _ => rfl⟩
theorem kK (p : Option Addr) (n cap : Nat) (ls : List Int) (R : ab) (hn : n = ls.length) (hR : ∀ w0 h, R w0 h → aE I3 p ls.length ls w0 h) (hE : ae.a8 ls = 0) : aC Tryz.prog 221 [.slice p n cap] [R] (aG fun v G => ∃ b, v = .pointer (some ⟨b, 0, none⟩) ∧ G = [HC b ls, R]) :=
 (Fc p n cap ls R hn hR).ok (x := ()) (by unfold ad.im; rw [if_pos hE])
theorem uB (p : Option Addr) (n cap : Nat) (ls : List Int) (R : ab) (hn : n = ls.length) (hR : ∀ w0 h, R w0 h → aE I3 p ls.length ls w0 h) (hE : ae.a8 ls ≠ 0) : aC Tryz.prog 221 [.slice p n cap] [R] (rE fun ch G => PE 4 ch ∧ G = []) :=
 (Fc p n cap ls R hn hR).err (by unfold ad.im; rw [if_neg hE])
theorem EC (x n : Int) (hn : 0 ≤ n ∧ n < 1000000) : aC Tryz.prog 220 [.int .i64 x, .int .i64 n] [] (aG fun v G => ∃ p c, v = .slice p n.toNat c ∧ G = [Row I3 p n.toNat c (List.replicate n.toNat x)]) := by
 have h := BS x n.toNat (by omega)
 rw [Int.toNat_of_nonneg hn.1] at h
 exact h
theorem LM (b bl : Nat) (sz mo : Int) (po : Option Addr) (no co : Nat) (li di : Value) (s : ad.St) : aC Tryz.prog 199 [.pointer (some ⟨b, 0, none⟩)] [ai b 223 [.pointer (some ⟨bl, 0, none⟩), .int .i64 sz, .int .i64 mo, .slice po no co, .bool s.ended, .int .i64 0, .int .i64 s.kind, .int .i64 (s.left : Int), .bool s.last, li, di, .int .i64 (s.ax : Int), .int .i64 (s.bA : Int)]] (aG fun v G => ∃ l d, v = .tuple #[] ∧ G = [ai b 223 [.pointer (some ⟨bl, 0, none⟩), .int .i64 sz, .int .i64 mo, .slice po no co, .bool s.ended, .int .i64 0, .int .i64 s.kind, .int .i64 (s.left : Int), .bool s.last, (.pointer (some ⟨l, 0, none⟩)), (.pointer (some ⟨d, 0, none⟩)), .int .i64 (s.ax : Int), .int .i64 (s.bA : Int)], HC l ad.fb, HC d ad.kz]) := by
 refine au [(0, _)] Tryz.func199 rfl Tryz.ntmps199 rfl rfl ?_
 intro w0 F
 refine (QJ) ?_
 iterate 4 refine oV (iM V.BW V.HB rfl (cs := [_, _]) rfl) ?_
 refine cM (P2) ad.hJ V.IG V.HB rfl rfl rfl rfl rfl rfl ?_
 intro b9
 refine (Q3) ?_
 refine jk (Row I3 none 0 0 (ad.gJ 0)) (Row.nil _ _ _) ?_
 refine gM (fun (k : Nat) (pr : Option Addr) (cr : Nat) => [(0, .pointer (some ⟨b, 0, none⟩)), (2, .slice pr (ad.gJ k).length cr), (9, .slice (some ⟨b9, 0, none⟩) 4 4), (10, .int .i64 4), (11, .int .i64 (k : Int))]) (fun (k : Nat) (pr : Option Addr) (cr : Nat) => Row I3 pr (ad.gJ k).length cr (ad.gJ k) :: Row P2 (some ⟨b9, 0, none⟩) 4 4 ad.hJ :: ai b 223 [.pointer (some ⟨bl, 0, none⟩), .int .i64 sz, .int .i64 mo, .slice po no co, .bool s.ended, .int .i64 0, .int .i64 s.kind, .int .i64 (s.left : Int), .bool s.last, li, di, .int .i64 (s.ax : Int), .int .i64 (s.bA : Int)] :: F) (fun (k : Nat) (pr : Option Addr) (cr : Nat) => k ≤ 4) (fun (k : Nat) (pr : Option Addr) (cr : Nat) => 4 - k) (i3 (0) (none) (0) ?_ (bN ln) (sub (fQ .nil) ao)) ?_
 ·exact Nat.zero_le _
 intro k pr cr
 rintro hk
 refine (Qm) ?_
 refine aF rfl (fun h12 => ?_) (fun h12 => ?_)
 ·refine (Qd) ?_
  refine oV (xI V.IG (own dM))<|oV (nt (c := (P2)) V.RN rfl (own dM) (by omega) (by omega) rfl)<|c4 V.HB rfl ?_
  intro b4
  refine cu (bd V.RN rfl rfl (us := [_, _]) rfl rfl (by exact fW) (by exact Nat.le_of_ble_eq_true rfl) rfl)<|(Q7) ?_
  have hf1 : 0 ≤ (P2.g ad.hJ (k : Int)).2 ∧ (P2.g ad.hJ (k : Int)).2 < 200 := ad.Ot (by omega)
  have hf2 := ad.LB k (by omega)
  refine (Qa) ?_
  refine oV (dh 0 rfl V.BW rfl rfl (by omega))<|(Ql) ?_
  refine oV (dh 1 rfl V.BW rfl rfl (by omega))<|(Ql) ?_
  refine aj (EC (P2.g ad.hJ (k : Int)).1 (P2.g ad.hJ (k : Int)).2 (by omega)) V.Cm  rfl .nil rfl ?_
  rintro _ _ ⟨p20, c20, rfl, rfl⟩
  refine ff (c := (I3)) V.cA V.z3 rfl rfl rfl rfl bj (own aA) (by omega) rfl ?_
  intro p21 c21
  refine (QG) ?_
  have hst : ad.gJ (k + 1) = ad.gJ k ++ List.replicate (P2.g ad.hJ (k : Int)).2.toNat (P2.g ad.hJ (k : Int)).1 := ad.Fi k
  have hsl : (ad.gJ (k + 1)).length = (ad.gJ k).length + (P2.g ad.hJ (k : Int)).2.toNat := by rw [hst, List.length_append, List.length_replicate]
  rw [← hst, ← hsl]
  refine j3 (k + 1) (_) (_) ?_ (bN ln) (sub (aq (.cons bj (.cons bj .nil))) fS)
  exact ⟨by omega, by omega⟩
 ·refine (Qg) ?_
  have hk4 : k = 4 := by omega
  have hfl : ae.a8 (ad.gJ k) = 0 := by rw [hk4, ad.C0]; exact ad.Ad
  refine (Q5) ?_
  refine aj (kK pr (ad.gJ k).length cr (ad.gJ k) (Row I3 pr (ad.gJ k).length cr (ad.gJ k)) rfl (fun _ _ hh => uc rfl hh) hfl) V.mY  rfl (aq .nil) rfl ?_
  rintro _ _ ⟨l26, rfl, rfl⟩
  refine aj (BS 5 32 (by omega)) V.Cm  rfl .nil rfl ?_
  rintro _ _ ⟨p27, DB, rfl, rfl⟩
  refine aj (kK p27 32 DB (List.replicate 32 5) (Row I3 p27 32 DB (List.replicate 32 5)) rfl (fun _ _ hh => uc rfl hh) ad.AZ) V.mY  rfl (aq .nil) rfl ?_
  rintro _ _ ⟨d28, rfl, rfl⟩
  refine (Q7)<|(Vq)<|(Q7)<|(Vq) ?_
  refine df ?_
  rw [hk4, ad.C0]
  exact gv ez ⟨l26, d28, rfl, rfl⟩ (sub (.cons jJ (.cons bj (aq .nil))) my)
end Go.Proofs.YtmaiakpjgomnpaaGreat
namespace Go.Proofs.YtmaiakpjgomnpaaGreat
open Go.Sl 
theorem bZ : jK Tryz.prog ⟨[47], [(223, 0, 0)]⟩ = true := by kernel_rfl
attribute [local irreducible] ae.a8 ae.tk ae.ord ae.bJ ae.words ae.bX ad.gH ad.bT ad.cx ad.dj ad.hL ad.hD ad.hC ad.eB ad.told ad.fb ad.im ad.rep
set_option maxHeartbeats 4000000 in
theorem Ez (b bl : Nat) (sz mo : Int) (po : Option Addr) (no co : Nat) (li di : Value) (s : ad.St) (B : List Int) (a : Nat) (hl : B.length < 500000000) (hB : af.ak B) (ha : a ≤ 8 * B.length) : aC Tryz.prog 200 [.pointer (some ⟨b, 0, none⟩)] [ai b 223 [.pointer (some ⟨bl, 0, none⟩), .int .i64 sz, .int .i64 mo, .slice po no co, .bool s.ended, .int .i64 0, .int .i64 s.kind, .int .i64 (s.left : Int), .bool s.last, li, di, .int .i64 (s.ax : Int), .int .i64 (s.bA : Int)], LW bl B a [] 0] (gB (ad.told B a) (fun x v G => ∃ l d, v = .tuple #[] ∧ G = [ai b 223 [.pointer (some ⟨bl, 0, none⟩), .int .i64 sz, .int .i64 mo, .slice po no co, .bool s.ended, .int .i64 0, .int .i64 s.kind, .int .i64 (s.left : Int), .bool s.last, (.pointer (some ⟨l, 0, none⟩)), (.pointer (some ⟨d, 0, none⟩)), .int .i64 (s.ax : Int), .int .i64 (s.bA : Int)], LW bl B x.1 [] 0, HC l x.2.1, HC d x.2.2]) [MX b bl sz mo]) := by
 refine au [(0, _)] Tryz.func200 rfl Tryz.ntmps200 rfl rfl ?_
 intro w0 F
 have hn1 := af.bF B a 5
 have hn2 := af.bF B (a + 5) 5
 have hn3 := af.bF B (a + 10) 4
 obtain ⟨he1, he2, he3, he4, he5, he6, he7, he8⟩ := ad.Eg B a
 have hNN : ad.cx B a = ad.hL B a + ad.hD B a := ad.yM B a
 have hAA : ad.dj B a = a + 14 + 3 * ad.hC B a := ad.xS B a
 rcases (ad.Tl B.length a) with hx | ⟨hx1, hx⟩ | ⟨hx1, hx⟩ | h14
 ·refine rT bZ 1 rfl ?_
  refine wN [pz 0 [] [0], pz 1 [0] [], pz 3 [1] [], pz 7 [2] [], pz 15 [3] [], pz 31 [4] [], pz 0 [] [0], pz 64 [6] [], pz 192 [7] [], pz 448 [8] [], pz 991 [9] [], pz 2015 [10] [], pz 0 [] [0], pz 4096 [12] [], pz 12288 [13] [], pz 28672 [14] [], pz 63455 [15] [], pz 128991 [16] [], pz 129023 [5] [], pz 393215 [11] [], pz 1048575 [17] []] [⟨fun y => ai b 223 [.pointer (some ⟨bl, 0, none⟩), .int .i64 sz, .int .i64 mo, .slice po no co, .bool s.ended, .int .i64 0, .int .i64 s.kind, .int .i64 (s.left : Int), .bool s.last, li, di, .int .i64 (s.ax : Int), .int .i64 (s.bA : Int)], none, none, [3, 4, 9, 15]⟩, ⟨fun y => LW bl B a [] 0, none, none, [4]⟩] F V.mixed ?_
  refine nM ?_
  refine nN ?_
  refine nG V.gy ?_
  refine nR (fun y FF hA => az V.fV rfl aA rfl) ?_
  refine aV (undef) _ _ (fun y => rfl) rfl (fun y => rfl) (fun y FF hA => fh (fw bl B a [] 0 5 hl hB (by omega) (by omega) (by omega)) V.eh rfl (.cons ay .nil) (by rintro _ _ ⟨rfl, rfl⟩; exact kt (ad.sP (by omega)) PE.end_ (aM (.cons ay .nil) (by exact xu (M := FF) (F := F)) (fun w0 h hh => bO hh)))) ?_
  refine aV (.bool true) _ _ (fun y => rfl) rfl (fun y => rfl) (fun y FF hA => (cI.fact (hA 4 (by decide)) (q := fun _ => False) rfl).elim) ?_
  refine nM ?_
  refine nN ?_
  refine nG V.gy ?_
  refine nR (fun y FF hA => az V.fV rfl aA rfl) ?_
  refine aV (.bool true) _ _ (fun y => rfl) rfl (fun y => rfl) (fun y FF hA => (cI.fact (hA 4 (by decide)) (q := fun _ => False) rfl).elim) ?_
  refine aV (.bool true) _ _ (fun y => rfl) rfl (fun y => rfl) (fun y FF hA => (cI.fact (hA 4 (by decide)) (q := fun _ => False) rfl).elim) ?_
  refine nM ?_
  refine nN ?_
  refine nG V.gy ?_
  refine nR (fun y FF hA => az V.fV rfl aA rfl) ?_
  refine aV (.bool true) _ _ (fun y => rfl) rfl (fun y => rfl) (fun y FF hA => (cI.fact (hA 4 (by decide)) (q := fun _ => False) rfl).elim) ?_
  refine aV (.bool true) _ _ (fun y => rfl) rfl (fun y => rfl) (fun y FF hA => (cI.fact (hA 4 (by decide)) (q := fun _ => False) rfl).elim) ?_
  refine aV (.bool true) _ _ (fun y => rfl) rfl (fun y => rfl) (fun y FF hA => (cI.fact (hA 4 (by decide)) (q := fun _ => False) rfl).elim) ?_
  refine aV (.bool true) _ _ (fun y => rfl) rfl (fun y => rfl) (fun y FF hA => (cI.fact (hA 4 (by decide)) (q := fun _ => False) rfl).elim) ?_
  refine aV (.bool true) _ _ (fun y => rfl) rfl (fun y => rfl) (fun y FF hA => (cI.fact (hA 4 (by decide)) (q := fun _ => False) rfl).elim) ?_
  refine cN ?_
  intro y hA
  exact (cI.fact (hA 4 (by exact Nat.le_of_ble_eq_true rfl)) (q := fun _ => False) rfl).elim
 ·refine rT bZ 1 rfl ?_
  refine wN [pz 0 [] [0], pz 1 [0] [], pz 3 [1] [], pz 7 [2] [], pz 15 [3] [], pz 31 [4] [], pz 0 [] [0], pz 64 [6] [], pz 192 [7] [], pz 448 [8] [], pz 991 [9] [], pz 2015 [10] [], pz 0 [] [0], pz 4096 [12] [], pz 12288 [13] [], pz 28672 [14] [], pz 63455 [15] [], pz 128991 [16] [], pz 129023 [5] [], pz 393215 [11] [], pz 1048575 [17] []] [⟨fun y => ai b 223 [.pointer (some ⟨bl, 0, none⟩), .int .i64 sz, .int .i64 mo, .slice po no co, .bool s.ended, .int .i64 0, .int .i64 s.kind, .int .i64 (s.left : Int), .bool s.last, li, di, .int .i64 (s.ax : Int), .int .i64 (s.bA : Int)], none, none, [3, 9, 10, 15]⟩, ⟨fun y => LW bl B a [] 0, none, some 4, []⟩, ⟨fun y => LW bl B (a + 5) [] 0, some 4, none, [10]⟩] F V.mixed ?_
  refine nM ?_
  refine nN ?_
  refine nG V.gy ?_
  refine nR (fun y FF hA => az V.fV rfl aA rfl) ?_
  refine nE (fun y FF hA => aX (Post := [LW bl B (a + 5) [] 0]) (eM bl B a [] 0 5 hl hB (by omega) (by omega)) V.eh rfl (aq .nil) (fun v G h => by rcases h with ⟨rfl, rfl⟩; exact ⟨rfl, .refl _⟩)) ?_
  refine nV (fun y hA L => eb rfl rfl wI) ?_
  refine nM ?_
  refine nN ?_
  refine nG V.gy ?_
  refine nR (fun y FF hA => az V.fV rfl aA rfl) ?_
  refine aV (undef) _ _ (fun y => rfl) rfl (fun y => rfl) (fun y FF hA => fh (fw bl B (a + 5) [] 0 5 hl hB (by omega) (by omega) (by omega)) V.eh rfl (.cons ay .nil) (by rintro _ _ ⟨rfl, rfl⟩; exact kt (ad.sP (by omega)) PE.end_ (aM (.cons ay .nil) (by exact xu (M := FF) (F := F)) (fun w0 h hh => bO hh)))) ?_
  refine aV (.bool true) _ _ (fun y => rfl) rfl (fun y => rfl) (fun y FF hA => (cI.fact (hA 10 (by decide)) (q := fun _ => False) rfl).elim) ?_
  refine nM ?_
  refine nN ?_
  refine nG V.gy ?_
  refine nR (fun y FF hA => az V.fV rfl aA rfl) ?_
  refine aV (.bool true) _ _ (fun y => rfl) rfl (fun y => rfl) (fun y FF hA => (cI.fact (hA 10 (by decide)) (q := fun _ => False) rfl).elim) ?_
  refine aV (.bool true) _ _ (fun y => rfl) rfl (fun y => rfl) (fun y FF hA => (cI.fact (hA 10 (by decide)) (q := fun _ => False) rfl).elim) ?_
  refine aV (.bool true) _ _ (fun y => rfl) rfl (fun y => rfl) (fun y FF hA => (cI.fact (hA 10 (by decide)) (q := fun _ => False) rfl).elim) ?_
  refine aV (.bool true) _ _ (fun y => rfl) rfl (fun y => rfl) (fun y FF hA => (cI.fact (hA 10 (by decide)) (q := fun _ => False) rfl).elim) ?_
  refine aV (.bool true) _ _ (fun y => rfl) rfl (fun y => rfl) (fun y FF hA => (cI.fact (hA 10 (by decide)) (q := fun _ => False) rfl).elim) ?_
  refine cN ?_
  intro y hA
  exact (cI.fact (hA 10 (by exact Nat.le_of_ble_eq_true rfl)) (q := fun _ => False) rfl).elim
 ·refine rT bZ 1 rfl ?_
  refine wN [pz 0 [] [0], pz 1 [0] [], pz 3 [1] [], pz 7 [2] [], pz 15 [3] [], pz 31 [4] [], pz 0 [] [0], pz 64 [6] [], pz 192 [7] [], pz 448 [8] [], pz 991 [9] [], pz 2015 [10] [], pz 0 [] [0], pz 4096 [12] [], pz 12288 [13] [], pz 28672 [14] [], pz 63455 [15] [], pz 128991 [16] [], pz 129023 [5] [], pz 393215 [11] [], pz 1048575 [17] []] [⟨fun y => ai b 223 [.pointer (some ⟨bl, 0, none⟩), .int .i64 sz, .int .i64 mo, .slice po no co, .bool s.ended, .int .i64 0, .int .i64 s.kind, .int .i64 (s.left : Int), .bool s.last, li, di, .int .i64 (s.ax : Int), .int .i64 (s.bA : Int)], none, none, [3, 9, 15, 16]⟩, ⟨fun y => LW bl B a [] 0, none, some 4, []⟩, ⟨fun y => LW bl B (a + 5) [] 0, some 4, some 10, []⟩, ⟨fun y => LW bl B (a + 10) [] 0, some 10, none, [16]⟩] F V.mixed ?_
  refine nM ?_
  refine nN ?_
  refine nG V.gy ?_
  refine nR (fun y FF hA => az V.fV rfl aA rfl) ?_
  refine nE (fun y FF hA => aX (Post := [LW bl B (a + 5) [] 0]) (eM bl B a [] 0 5 hl hB (by omega) (by omega)) V.eh rfl (aq .nil) (fun v G h => by rcases h with ⟨rfl, rfl⟩; exact ⟨rfl, .refl _⟩)) ?_
  refine nV (fun y hA L => eb rfl rfl wI) ?_
  refine nM ?_
  refine nN ?_
  refine nG V.gy ?_
  refine nR (fun y FF hA => az V.fV rfl aA rfl) ?_
  refine nE (fun y FF hA => aX (Post := [LW bl B (a + 10) [] 0]) (eM bl B (a + 5) [] 0 5 hl hB (by omega) (by omega)) V.eh rfl (aq .nil) (fun v G h => by rcases h with ⟨rfl, rfl⟩; exact ⟨rfl, .refl _⟩)) ?_
  refine nV (fun y hA L => eb rfl rfl wI) ?_
  refine nM ?_
  refine nN ?_
  refine nG V.gy ?_
  refine nR (fun y FF hA => az V.fV rfl aA rfl) ?_
  refine aV (undef) _ _ (fun y => rfl) rfl (fun y => rfl) (fun y FF hA => fh (fw bl B (a + 10) [] 0 4 hl hB (by omega) (by omega) (by omega)) V.eh rfl (.cons ay .nil) (by rintro _ _ ⟨rfl, rfl⟩; exact kt (ad.sP (by omega)) PE.end_ (aM (.cons ay .nil) (by exact xu (M := FF) (F := F)) (fun w0 h hh => bO hh)))) ?_
  refine aV (.bool true) _ _ (fun y => rfl) rfl (fun y => rfl) (fun y FF hA => (cI.fact (hA 16 (by decide)) (q := fun _ => False) rfl).elim) ?_
  refine aV (.bool true) _ _ (fun y => rfl) rfl (fun y => rfl) (fun y FF hA => (cI.fact (hA 16 (by decide)) (q := fun _ => False) rfl).elim) ?_
  refine aV (.bool true) _ _ (fun y => rfl) rfl (fun y => rfl) (fun y FF hA => (cI.fact (hA 16 (by decide)) (q := fun _ => False) rfl).elim) ?_
  refine aV (.bool true) _ _ (fun y => rfl) rfl (fun y => rfl) (fun y FF hA => (cI.fact (hA 16 (by decide)) (q := fun _ => False) rfl).elim) ?_
  refine cN ?_
  intro y hA
  exact (cI.fact (hA 16 (by exact Nat.le_of_ble_eq_true rfl)) (q := fun _ => False) rfl).elim
 ·refine rT bZ 1 rfl ?_
  refine wN [pz 0 [] [0], pz 1 [0] [], pz 3 [1] [], pz 7 [2] [], pz 15 [3] [], pz 31 [4] [], pz 0 [] [0], pz 64 [6] [], pz 192 [7] [], pz 448 [8] [], pz 991 [9] [], pz 2015 [10] [], pz 0 [] [0], pz 4096 [12] [], pz 12288 [13] [], pz 28672 [14] [], pz 63455 [15] [], pz 128991 [16] [], pz 129023 [5] [], pz 393215 [11] [], pz 1048575 [17] []] [⟨fun y => ai b 223 [.pointer (some ⟨bl, 0, none⟩), .int .i64 sz, .int .i64 mo, .slice po no co, .bool s.ended, .int .i64 0, .int .i64 s.kind, .int .i64 (s.left : Int), .bool s.last, li, di, .int .i64 (s.ax : Int), .int .i64 (s.bA : Int)], none, none, [3, 9, 15]⟩, ⟨fun y => LW bl B a [] 0, none, some 4, []⟩, ⟨fun y => LW bl B (a + 5) [] 0, some 4, some 10, []⟩, ⟨fun y => LW bl B (a + 10) [] 0, some 10, some 16, []⟩, ⟨fun y => LW bl B (a + 14) [] 0, some 16, none, []⟩] F V.mixed ?_
  refine nM ?_
  refine nN ?_
  refine nG V.gy ?_
  refine nR (fun y FF hA => az V.fV rfl aA rfl) ?_
  refine nE (fun y FF hA => aX (Post := [LW bl B (a + 5) [] 0]) (eM bl B a [] 0 5 hl hB (by omega) (by omega)) V.eh rfl (aq .nil) (fun v G h => by rcases h with ⟨rfl, rfl⟩; exact ⟨rfl, .refl _⟩)) ?_
  refine nV (fun y hA L => eb rfl rfl wI) ?_
  refine nM ?_
  refine nN ?_
  refine nG V.gy ?_
  refine nR (fun y FF hA => az V.fV rfl aA rfl) ?_
  refine nE (fun y FF hA => aX (Post := [LW bl B (a + 10) [] 0]) (eM bl B (a + 5) [] 0 5 hl hB (by omega) (by omega)) V.eh rfl (aq .nil) (fun v G h => by rcases h with ⟨rfl, rfl⟩; exact ⟨rfl, .refl _⟩)) ?_
  refine nV (fun y hA L => eb rfl rfl wI) ?_
  refine nM ?_
  refine nN ?_
  refine nG V.gy ?_
  refine nR (fun y FF hA => az V.fV rfl aA rfl) ?_
  refine nE (fun y FF hA => aX (Post := [LW bl B (a + 14) [] 0]) (eM bl B (a + 10) [] 0 4 hl hB (by omega) (by omega)) V.eh rfl (aq .nil) (fun v G h => by rcases h with ⟨rfl, rfl⟩; exact ⟨rfl, .refl _⟩)) ?_
  refine nV (fun y hA L => eb rfl rfl wI) ?_
  iterate 3 refine nA ?_
  refine cN ?_
  intro y hA
  clear hA
  refine bg ?_
  refine bD _ (.cons (d := 0) rfl (.cons (d := 2) rfl (.cons (d := 3) rfl (.cons (d := 4) rfl (.nil _))))) ?_
  refine bb (M := ai b 223 [.pointer (some ⟨bl, 0, none⟩), .int .i64 sz, .int .i64 mo, .slice po no co, .bool s.ended, .int .i64 0, .int .i64 s.kind, .int .i64 (s.left : Int), .bool s.last, li, di, .int .i64 (s.ax : Int), .int .i64 (s.bA : Int)] :: LW bl B (a + 14) [] 0 :: F) (fun _ _ h => h) ?_
  rcases (ad.VG (ad.hL B a ≤ 286) (ad.hD B a ≤ 30)) with ⟨hq1, hq2⟩ | ⟨hq1, hq2⟩ | hq1
  ·refine rC bZ 1 rfl ?_
   rw [he1, he2, he3]
   refine rC bZ 2 rfl ?_
   refine oV (cJ (eO rfl rfl) (by omega)) ?_
   refine rO bZ 2 rfl ?_
   refine cL rfl ?_
   refine oV (cJ (eO rfl rfl) (by omega)) ?_
   refine oV (ni rfl rfl) ?_
   refine aj (ny 4) V.kG  rfl .nil rfl ?_
   rintro _ _ ⟨rfl, rfl⟩
   refine rO bZ 4 rfl ?_
   refine aj (BS 0 19 (by omega)) V.Cm  rfl .nil rfl ?_
   rintro _ _ ⟨p37, c37, rfl, rfl⟩
   refine rO bZ 6 rfl ?_
   refine aj (K2) V.W5  rfl .nil rfl ?_
   rintro _ _ ⟨p38, rfl, rfl⟩
   refine oV (jm rfl) ?_
   refine oV (iK (ad.hC B a) _ V.cA rfl ⟨_, rfl⟩ rfl (by omega) (by omega)) ?_
   refine rO bZ 5 rfl ?_
   rw [← ad.Gw B (a + 14)]
   rw [show LW bl B (a + 14) [] 0 = LW bl B (a + 14 + 3 * 0) [] 0 from rfl]
   refine cB (fun (k : Nat) => [(0, .pointer (some ⟨b, 0, none⟩)), (2, .int .i64 (ad.hL B a : Int)), (3, .int .i64 (ad.hD B a : Int)), (5, .slice p37 19 c37), (40, .slice p38 (ad.hC B a) 19), (41, .int .i64 ((ad.hC B a) : Int)), (42, .int .i64 (k : Int))]) (fun (k : Nat) => Row I3 p37 19 c37 (ad.gH B (a + 14) k) :: Row I3 p38 19 19 ad.lx :: ai b 223 [.pointer (some ⟨bl, 0, none⟩), .int .i64 sz, .int .i64 mo, .slice po no co, .bool s.ended, .int .i64 0, .int .i64 s.kind, .int .i64 (s.left : Int), .bool s.last, li, di, .int .i64 (s.ax : Int), .int .i64 (s.bA : Int)] :: LW bl B (a + 14 + 3 * k) [] 0 :: F) (fun (k : Nat) => k ≤ ad.hC B a ∧ a + 14 + 3 * k ≤ 8 * B.length) (fun (k : Nat) => ad.hC B a - k) (i1 (0) ?_ (jg (bN ln)) (sub (.cons ay (fQ .nil)) ao)) ?_
   ·exact ⟨Nat.zero_le _, by omega⟩
   intro k
   rintro ⟨hk, hk2⟩
   refine rL bZ 6 rfl ?_
   refine aF rfl (fun h43 => ?_) (fun h43 => ?_)
   ·refine rC bZ 5 rfl ?_
    have hoo : 0 ≤ I3.g ad.lx (k : Int) ∧ I3.g ad.lx (k : Int) < 19 := ad.Mh (k := k) (by omega)
    refine dR ?_
    refine oV (qY (c := (I3)) V.cA rfl rfl (by exact (own dM).take _ (by omega)) (by omega) (by omega)) ?_
    refine oV (xL V.s3 (own dM)) ?_
    refine rO bZ 3 rfl ?_
    rcases (Nat.lt_or_ge (8 * B.length) ((a + 14 + 3 * k) + 3)) with hx | hx
    ·refine rC bZ 6 rfl ?_
     refine oV (az V.fV rfl dL rfl) ?_
     refine c9 (fw bl B (a + 14 + 3 * k) [] 0 3 hl hB (by omega) (by omega) (by omega)) V.eh rfl (.cons dw .nil) ?_
     rintro _ _ ⟨rfl, rfl⟩
     refine (ev (cS (cS (ev (cS ?_)))))
     exact dk (ad.ES h14 ⟨hq1, hq2⟩ (by omega)) PE.end_ (aM (.cons dw .nil) my (fun w0 h hh => bO hh))
    ·refine rC bZ 6 rfl ?_
     refine oV (az V.fV rfl dL rfl) ?_
     refine aj (eM bl B (a + 14 + 3 * k) [] 0 3 hl hB (by omega) (by omega)) V.eh  rfl (.cons dw .nil) rfl ?_
     rintro _ _ ⟨rfl, rfl⟩
     refine oV (xI V.cA (own dM)) ?_
     refine cu (nf (c := (I3)) (_) V.s3 rfl rfl rfl (by exact tg) (by omega) (by omega) rfl rfl) ?_
     refine iP bZ 7 rfl (by omega) ?_
     rw [show (ad.gH B (a + 14) k).set (I3.g ad.lx (k : Int)).toNat (af.aK B (a + 14 + 3 * k) 3) = ad.gH B (a + 14) (k + 1) from (ad.HI B (a + 14) k).symm]
     rw [show a + 14 + 3 * k + 3 = a + 14 + 3 * (k + 1) from by omega]
     refine j1 (k + 1) ?_ (jg (bN ln)) (sub (.cons ay (.cons ay (.cons ay (aq .nil)))) ao)
     exact ⟨⟨by omega, by omega⟩, by omega⟩
   ·refine rC bZ 5 rfl ?_
    rcases (Classical.em (ae.a8 (ad.bT B a) = 0)) with hy | hy
    ·refine rC bZ 1 rfl ?_
     have hkC : k = ad.hC B a := by omega
     rw [show ad.gH B (a + 14) k = ad.bT B a from by rw [hkC]; exact (ad.yk B a).symm, show a + 14 + 3 * k = ad.dj B a from by omega]
     have hta : ad.dj B a ≤ 8 * B.length := by omega
     refine rC bZ 2 rfl ?_
     refine aj (kK p37 19 c37 (ad.bT B a) (Row I3 p37 19 c37 (ad.bT B a)) (ad.gZ B a).symm (fun _ _ hh => uc (ad.gZ B a).symm hh) hy) V.mY  rfl (aq .nil) rfl ?_
     rintro _ _ ⟨bc, rfl, rfl⟩
     refine rO bZ 10 rfl ?_
     refine jk (Row I3 none 0 0 []) (Row.nil _ _ _) ?_
     refine Av (fun (l : List Int) (f : Nat) (x : Nat) (pr : Option Addr) (cr : Nat) => [(0, .pointer (some ⟨b, 0, none⟩)), (2, .int .i64 (ad.hL B a : Int)), (3, .int .i64 (ad.hD B a : Int)), (8, .pointer (some ⟨bc, 0, none⟩)), (9, .slice pr l.length cr)]) (fun (l : List Int) (f : Nat) (x : Nat) (pr : Option Addr) (cr : Nat) => Row I3 pr l.length cr l :: HC bc (ad.bT B a) :: ai b 223 [.pointer (some ⟨bl, 0, none⟩), .int .i64 sz, .int .i64 mo, .slice po no co, .bool s.ended, .int .i64 0, .int .i64 s.kind, .int .i64 (s.left : Int), .bool s.last, li, di, .int .i64 (s.ax : Int), .int .i64 (s.bA : Int)] :: LW bl B x [] 0 :: F) (fun (l : List Int) (f : Nat) (x : Nat) (pr : Option Addr) (cr : Nat) => ad.eB B (ad.bT B a) (ad.cx B a) (ad.cx B a) [] (ad.dj B a) = ad.eB B (ad.bT B a) (ad.cx B a) f l x ∧ (ad.cx B a) ≤ f + l.length ∧ l.length ≤ (ad.cx B a) ∧ x ≤ 8 * B.length) (fun (l : List Int) (f : Nat) (x : Nat) (pr : Option Addr) (cr : Nat) => (ad.cx B a) - l.length) (i5 ([]) ((ad.cx B a)) ((ad.dj B a)) (none) (0) ?_ (bN ln) (sub (aT (.cons bj (.cons bj .nil))) fS)) ?_
     ·exact ⟨rfl, Nat.le_add_right _ _, Nat.zero_le _, hta⟩
     intro l f x pr cr
     rintro ⟨hg, hf, hlt, hx⟩
     refine Wn bZ 11 rfl (by omega) ?_
     refine aF rfl (fun h62 => ?_) (fun h62 => ?_)
     ·refine rC bZ 3 rfl ?_
      rcases (ad.BH B (ad.bT B a) l x) with ⟨e, hs⟩ | ⟨sy, x2, e, hs, hr⟩ | ⟨sy, x2, xx, nn, x3, hs, hr⟩
      ·refine rC bZ 7 rfl ?_
       refine oV (az V.fV rfl dL rfl) ?_
       refine c9 ((mC bc (ad.bT B a) bl B x [] 0 hy hl hB hx).err hs) V.pq rfl (.cons ay (.cons bj .nil)) ?_
       rintro _ _ ⟨hp, rfl⟩
       refine (cS (ev (cS (ev (cS ?_)))))
       exact dk (ad.tn h14 ⟨hq1, hq2⟩ hta hy (hg.trans (ad.nW (by omega) hf (ad.sA hs)))) hp (aM (.cons ay .nil) bC (fun w0 h hh => bO hh))
      ·refine rC bZ 1 rfl ?_
       have hsz := ad.qi hy (by rw [ad.gZ]; omega) hs
       rw [ad.gZ] at hsz
       have hsy : 0 ≤ sy ∧ sy ≤ 18 := by omega
       have hx2 : x2 ≤ 8 * B.length := by omega
       refine rC bZ 6 rfl ?_
       refine oV (az V.fV rfl dL rfl) ?_
       refine aj ((mC bc (ad.bT B a) bl B x [] 0 hy hl hB hx).ok hs) V.pq  rfl (.cons ay (.cons bj .nil)) rfl ?_
       rintro _ _ ⟨rfl, rfl⟩
       refine oV (jm rfl) ?_
       refine c9 ((JK b bl sz mo po no co li di s B x2 sy pr cr l hsy hl hB hx2 (by omega)).err hr) V.P6 rfl (.cons dw (.cons ay (.cons ay .nil))) ?_
       rintro _ _ ⟨hp, rfl⟩
       refine (cS (ev (cS (ev (cS ?_)))))
       exact dk (ad.tn h14 ⟨hq1, hq2⟩ hta hy (hg.trans (ad.nW (by omega) hf (ad.se hs hr)))) hp (sub (aq .nil) bC)
      ·refine rC bZ 1 rfl ?_
       have hsz := ad.qi hy (by rw [ad.gZ]; omega) hs
       rw [ad.gZ] at hsz
       have hsy : 0 ≤ sy ∧ sy ≤ 18 := by omega
       have hx2 : x2 ≤ 8 * B.length := by omega
       have hrg := ad.yf hx2 hr
       refine rC bZ 6 rfl ?_
       refine oV (az V.fV rfl dL rfl) ?_
       refine aj ((mC bc (ad.bT B a) bl B x [] 0 hy hl hB hx).ok hs) V.pq  rfl (.cons ay (.cons bj .nil)) rfl ?_
       rintro _ _ ⟨rfl, rfl⟩
       refine oV (jm rfl) ?_
       refine aj ((JK b bl sz mo po no co li di s B x2 sy pr cr l hsy hl hB hx2 (by omega)).ok hr) V.P6  rfl (.cons dw (.cons ay (.cons ay .nil))) rfl ?_
       rintro _ _ ⟨rfl, rfl⟩
       refine rO bZ 12 rfl ?_
       refine aj (EC xx nn (by omega)) V.Cm  rfl .nil rfl ?_
       rintro _ _ ⟨p78, c78, rfl, rfl⟩
       refine ff (c := (I3)) V.cA V.z3 rfl rfl rfl rfl dw (own aA) (by omega) rfl ?_
       intro p79 c79
       refine rO bZ 3 rfl ?_
       rcases (Nat.lt_or_ge (ad.cx B a) (l.length + nn.toNat)) with hbg | hbg
       ·refine jz bZ 6 rfl (by omega) ?_
        refine oV (bR (eO rfl rfl) (by omega)) ?_
        refine c9 (kT 4) V.kG rfl .nil ?_
        rintro _ _ ⟨rfl, rfl⟩
        refine (ev (cS (ev (cS ?_))))
        exact dk (ad.tn h14 ⟨hq1, hq2⟩ hta hy (hg.trans (ad.xv (by omega) hf (ad.mj hs hr) (by rw [List.length_append, List.length_replicate]; omega)))) (PE.no (by decide)) (aM (.cons bj .nil) k6 (fun w0 h hh => bO hh))
       ·refine jz bZ 6 rfl (by omega) ?_
        refine oV (cJ (eO rfl rfl) (by omega)) ?_
        refine aj (ny 4) V.kG  rfl .nil rfl ?_
        rintro _ _ ⟨rfl, rfl⟩
        refine rO bZ 2 rfl ?_
        rw [show l.length + nn.toNat = (l ++ List.replicate nn.toNat xx).length from by rw [List.length_append, List.length_replicate]]
        have hll : (l ++ List.replicate nn.toNat xx).length = l.length + nn.toNat := by rw [List.length_append, List.length_replicate]
        refine j5 (l ++ List.replicate nn.toNat xx) (f - 1) (x3) (_) (_) ?_ (bN ln) (sub (aq (.cons dw (.cons ay (.cons ay .nil)))) bC)
        exact ⟨⟨hg.trans (ad.vt (by omega) hf (ad.mj hs hr) (by omega)), by omega, by omega, by omega⟩, by omega⟩
     ·refine rC bZ 5 rfl ?_
      rcases (ad.VG (ae.a8 (l.take (ad.hL B a)) = 0) (ae.a8 (l.drop (ad.hL B a)) = 0)) with ⟨hc1, hc2⟩ | ⟨hc1, hc2⟩ | hc1
      ·refine rC bZ 1 rfl ?_
       have hlt : l.length = ad.cx B a := by omega
       have hz := hg.trans (ad.lY (B := B) (c := ad.bT B a) (f := f) (a := x) (show ad.cx B a ≤ l.length by omega))
       refine wm (p := pr) (n := l.length) (cap := cr) (l := l) (c := I3) aA fun hcap => ?_
       refine jf [pz 0 [] [0], pz 0 [] [0], pz 0 [] [9], pz 0 [] [2], pz 12 [2, 3] [], pz 28 [4] [], pz 0 [] [9], pz 0 [] [2], pz 192 [6, 7] [], pz 508 [8] [], pz 1021 [0] [], pz 2045 [10] [], pz 4093 [11, 5] [], pz 8191 [1] [], pz 16383 [13] [], pz 32767 [14, 9] []] [⟨fun y => Row I3 pr l.length cr l, none, some 5, []⟩, ⟨fun y => HC bc (ad.bT B a), none, none, []⟩, ⟨fun y => ai b 223 [.pointer (some ⟨bl, 0, none⟩), .int .i64 sz, .int .i64 mo, .slice po no co, .bool s.ended, .int .i64 0, .int .i64 s.kind, .int .i64 (s.left : Int), .bool s.last, li, di, .int .i64 (s.ax : Int), .int .i64 (s.bA : Int)], none, some 12, []⟩, ⟨fun y => LW bl B x [] 0, none, none, []⟩, ⟨fun y => HC (ek (y 5)) (l.take (ad.hL B a)), some 5, none, []⟩, ⟨fun y => Row I3 pr l.length cr l, some 5, some 9, []⟩, ⟨fun y => HC (ek (y 9)) (l.drop (ad.hL B a)), some 9, none, []⟩, ⟨fun y => Row I3 pr l.length cr l, some 9, none, []⟩, ⟨fun y => ai b 223 [.pointer (some ⟨bl, 0, none⟩), .int .i64 sz, .int .i64 mo, .slice po no co, .bool s.ended, .int .i64 0, .int .i64 s.kind, .int .i64 (s.left : Int), .bool s.last, .pointer (some ⟨ek (y 5), 0, none⟩), di, .int .i64 (s.ax : Int), .int .i64 (s.bA : Int)], some 12, some 15, []⟩, ⟨fun y => ai b 223 [.pointer (some ⟨bl, 0, none⟩), .int .i64 sz, .int .i64 mo, .slice po no co, .bool s.ended, .int .i64 0, .int .i64 s.kind, .int .i64 (s.left : Int), .bool s.last, .pointer (some ⟨ek (y 5), 0, none⟩), .pointer (some ⟨ek (y 9), 0, none⟩), .int .i64 (s.ax : Int), .int .i64 (s.bA : Int)], some 15, none, []⟩] F V.mixed (by kernel_rfl) rfl (fun _ => .refl _) (aP _ (aP _ (aP _ (aP _ (cK _ rfl (by intro y y2 h; simp only [h 5 (.inl rfl)]) (cK _ rfl (by intro y y2 h; rfl) (cK _ rfl (by intro y y2 h; simp only [h 9 (.inl rfl)]) (cK _ rfl (by intro y y2 h; rfl) (cK _ rfl (by intro y y2 h; simp only [h 5 (.inr (by decide))]) (cK _ rfl (by intro y y2 h; simp only [h 5 (.inr (by decide)), h 9 (.inr (by decide))]) eV)))))))))) ?_
       iterate 4 refine nM ?_
       refine nV (fun y hA L => iK (ad.hL B a) _ V.cA rfl ⟨_, rfl⟩ rfl (by omega) (by omega)) ?_
       refine eK (fun y v => .pointer (some ⟨ek v, 0, none⟩)) (fun y v => True) _ _ (fun y v => [HC (ek v) (l.take (ad.hL B a)), Row I3 pr l.length cr l]) _ (fun y => rfl) (fun y => rfl) (fun y => rfl) (fun y => rfl) (fun y FF hA => n6 (A := fun z => HC z (l.take (ad.hL B a))) (Post := [Row I3 pr l.length cr l]) (kK pr (ad.hL B a) cr (l.take (ad.hL B a)) (Row I3 pr l.length cr l) (by (rw [List.length_take]; omega)) (fun _ _ hh => oo rfl (by omega) hh) hc1) V.mY rfl (aq .nil)) (by intros; rfl) (by intros; rfl) (by intros; rfl) (by intro y y2 h; simp only [h 5 (.inl rfl)]) (by intro y y2 h; rfl) ?_
       iterate 2 refine nM ?_
       refine nV (fun y hA L => dY (ad.hL B a) _ _ V.cA rfl ⟨_, rfl⟩ ⟨rfl, rfl⟩ rfl (by omega) (by omega) (by omega)) ?_
       refine eK (fun y v => .pointer (some ⟨ek v, 0, none⟩)) (fun y v => True) _ _ (fun y v => [HC (ek v) (l.drop (ad.hL B a)), Row I3 pr l.length cr l]) _ (fun y => rfl) (fun y => rfl) (fun y => rfl) (fun y => rfl) (fun y FF hA => n6 (A := fun z => HC z (l.drop (ad.hL B a))) (Post := [Row I3 pr l.length cr l]) (kK (dm pr (ad.hL B a) cr 1) (l.length - (ad.hL B a)) (cr - (ad.hL B a)) (l.drop (ad.hL B a)) (Row I3 pr l.length cr l) (by rw [List.length_drop]) (fun _ _ hh => wM rfl (by omega) hcap hh) hc2) V.mY rfl (aq .nil)) (by intros; rfl) (by intros; rfl) (by intros; rfl) (by intro y y2 h; simp only [h 9 (.inl rfl)]) (by intro y y2 h; rfl) ?_
       refine nN ?_
       refine nG V.wG ?_
       refine nE (fun y FF hA => dE (dz V.y8 rfl rfl rfl (by exact fW) (by exact Nat.le_of_ble_eq_true rfl) rfl) ⟨rfl, .refl _⟩) ?_
       refine nN ?_
       refine nG V.uO ?_
       refine nE (fun y FF hA => dE (dz V.y8 rfl rfl rfl (by exact fW) (by exact Nat.le_of_ble_eq_true rfl) rfl) ⟨rfl, .refl _⟩) ?_
       refine cN ?_
       intro y hA
       clear hA
       refine bg ?_
       refine bD _ (.cons (d := 9) rfl (.nil _)) ?_
       refine bb (M := HC bc (ad.bT B a) :: LW bl B x [] 0 :: HC (ek (y 5)) (l.take (ad.hL B a)) :: HC (ek (y 9)) (l.drop (ad.hL B a)) :: Row I3 pr l.length cr l :: ai b 223 [.pointer (some ⟨bl, 0, none⟩), .int .i64 sz, .int .i64 mo, .slice po no co, .bool s.ended, .int .i64 0, .int .i64 s.kind, .int .i64 (s.left : Int), .bool s.last, .pointer (some ⟨ek (y 5), 0, none⟩), .pointer (some ⟨ek (y 9), 0, none⟩), .int .i64 (s.ax : Int), .int .i64 (s.bA : Int)] :: F) (fun _ _ h => h) ?_
       generalize (ek (y 5)) = q92
       generalize (ek (y 9)) = q96
       rcases (Classical.em (l.getD 256 0 = 0)) with hend | hend
       ·have hnn := ad.AR hc1 256
        rw [ad.getD_take (show 256 < ad.hL B a by omega)] at hnn
        refine rC bZ 2 rfl ?_
        refine oV (xI V.cA (own jB)) ?_
        refine oV (xL V.s3 (own jB)) ?_
        refine oV (bR (ed rfl rfl) (by rw [show I3.g l 256 = l.getD 256 0 from rfl]; omega)) ?_
        refine c9 (kT 4) V.kG rfl .nil ?_
        rintro _ _ ⟨rfl, rfl⟩
        skip
        exact dk (ad.tC h14 ⟨hq1, hq2⟩ hta hy hz (.inr (.inr hend))) (PE.no (by decide)) (aM (.cons jJ .nil) rn (fun w0 h hh => bO hh))
       ·have hnn := ad.AR hc1 256
        rw [ad.getD_take (show 256 < ad.hL B a by omega)] at hnn
        refine rC bZ 2 rfl ?_
        refine oV (xI V.cA (own jB)) ?_
        refine oV (xL V.s3 (own jB)) ?_
        refine oV (cJ (ed rfl rfl) (by rw [show I3.g l 256 = l.getD 256 0 from rfl]; omega)) ?_
        refine aj (ny 4) V.kG  rfl .nil rfl ?_
        rintro _ _ ⟨rfl, rfl⟩
        refine df ?_
        exact gx (ad.CT h14 ⟨hq1, hq2⟩ hta hy hz hc1 hc2 hend) ez ⟨_, _, rfl, rfl⟩ (sub (.cons jJ (.cons ay (.cons ay (.cons ay .nil)))) fS)
      ·refine rC bZ 1 rfl ?_
       have hlt : l.length = ad.cx B a := by omega
       have hz := hg.trans (ad.lY (B := B) (c := ad.bT B a) (f := f) (a := x) (show ad.cx B a ≤ l.length by omega))
       refine wm (p := pr) (n := l.length) (cap := cr) (l := l) (c := I3) aA fun hcap => ?_
       refine jf [pz 0 [] [0], pz 0 [] [0], pz 0 [] [9], pz 0 [] [2], pz 12 [2, 3] [], pz 28 [4] [], pz 0 [] [9], pz 0 [] [2], pz 192 [6, 7] [], pz 508 [8] [], pz 1021 [0] [], pz 2045 [10] [], pz 4093 [11, 5] [], pz 8191 [1] [], pz 16383 [13] [], pz 32767 [14, 9] []] [⟨fun y => Row I3 pr l.length cr l, none, some 5, []⟩, ⟨fun y => HC bc (ad.bT B a), none, none, []⟩, ⟨fun y => ai b 223 [.pointer (some ⟨bl, 0, none⟩), .int .i64 sz, .int .i64 mo, .slice po no co, .bool s.ended, .int .i64 0, .int .i64 s.kind, .int .i64 (s.left : Int), .bool s.last, li, di, .int .i64 (s.ax : Int), .int .i64 (s.bA : Int)], none, none, [9]⟩, ⟨fun y => LW bl B x [] 0, none, none, []⟩, ⟨fun y => HC (ek (y 5)) (l.take (ad.hL B a)), some 5, none, []⟩, ⟨fun y => Row I3 pr l.length cr l, some 5, none, [9]⟩] F V.mixed (by kernel_rfl) rfl (fun _ => .refl _) (aP _ (aP _ (aP _ (aP _ (cK _ rfl (by intro y y2 h; simp only [h 5 (.inl rfl)]) (cK _ rfl (by intro y y2 h; rfl) eV)))))) ?_
       iterate 4 refine nM ?_
       refine nV (fun y hA L => iK (ad.hL B a) _ V.cA rfl ⟨_, rfl⟩ rfl (by omega) (by omega)) ?_
       refine eK (fun y v => .pointer (some ⟨ek v, 0, none⟩)) (fun y v => True) _ _ (fun y v => [HC (ek v) (l.take (ad.hL B a)), Row I3 pr l.length cr l]) _ (fun y => rfl) (fun y => rfl) (fun y => rfl) (fun y => rfl) (fun y FF hA => n6 (A := fun z => HC z (l.take (ad.hL B a))) (Post := [Row I3 pr l.length cr l]) (kK pr (ad.hL B a) cr (l.take (ad.hL B a)) (Row I3 pr l.length cr l) (by (rw [List.length_take]; omega)) (fun _ _ hh => oo rfl (by omega) hh) hc1) V.mY rfl (aq .nil)) (by intros; rfl) (by intros; rfl) (by intros; rfl) (by intro y y2 h; simp only [h 5 (.inl rfl)]) (by intro y y2 h; rfl) ?_
       iterate 2 refine nM ?_
       refine nV (fun y hA L => dY (ad.hL B a) _ _ V.cA rfl ⟨_, rfl⟩ ⟨rfl, rfl⟩ rfl (by omega) (by omega) (by omega)) ?_
       refine aV (undef) _ _ (fun y => rfl) rfl (fun y => rfl) (fun y FF hA => fh (uB (dm pr (ad.hL B a) cr 1) (l.length - (ad.hL B a)) (cr - (ad.hL B a)) (l.drop (ad.hL B a)) (Row I3 pr l.length cr l) (by rw [List.length_drop]) (fun _ _ hh => wM rfl (by omega) hcap hh) hc2) V.mY rfl (.cons ay .nil) (by rintro _ _ ⟨hp, rfl⟩; exact kt (ad.tC h14 ⟨hq1, hq2⟩ hta hy hz (.inr (.inl hc2))) hp (aM (aq .nil) (by exact vx (M := FF) (F := F)) (fun w0 h hh => bO hh)))) ?_
       refine aV (.bool true) _ _ (fun y => rfl) rfl (fun y => rfl) (fun y FF hA => (cI.fact (hA 9 (by decide)) (q := fun _ => False) rfl).elim) ?_
       refine aV (.bool true) _ _ (fun y => rfl) rfl (fun y => rfl) (fun y FF hA => (cI.fact (hA 9 (by decide)) (q := fun _ => False) rfl).elim) ?_
       refine aV (.bool true) _ _ (fun y => rfl) rfl (fun y => rfl) (fun y FF hA => (cI.fact (hA 9 (by decide)) (q := fun _ => False) rfl).elim) ?_
       refine aV (.bool true) _ _ (fun y => rfl) rfl (fun y => rfl) (fun y FF hA => (cI.fact (hA 9 (by decide)) (q := fun _ => False) rfl).elim) ?_
       refine aV (.bool true) _ _ (fun y => rfl) rfl (fun y => rfl) (fun y FF hA => (cI.fact (hA 9 (by decide)) (q := fun _ => False) rfl).elim) ?_
       refine aV (.bool true) _ _ (fun y => rfl) rfl (fun y => rfl) (fun y FF hA => (cI.fact (hA 9 (by decide)) (q := fun _ => False) rfl).elim) ?_
       refine cN ?_
       intro y hA
       exact (cI.fact (hA 9 (by exact Nat.le_of_ble_eq_true rfl)) (q := fun _ => False) rfl).elim
      ·refine rC bZ 1 rfl ?_
       have hlt : l.length = ad.cx B a := by omega
       have hz := hg.trans (ad.lY (B := B) (c := ad.bT B a) (f := f) (a := x) (show ad.cx B a ≤ l.length by omega))
       refine wm (p := pr) (n := l.length) (cap := cr) (l := l) (c := I3) aA fun hcap => ?_
       refine wN [pz 0 [] [0], pz 0 [] [0], pz 0 [] [9], pz 0 [] [2], pz 12 [2, 3] [], pz 28 [4] [], pz 0 [] [9], pz 0 [] [2], pz 192 [6, 7] [], pz 508 [8] [], pz 1021 [0] [], pz 2045 [10] [], pz 4093 [11, 5] [], pz 8191 [1] [], pz 16383 [13] [], pz 32767 [14, 9] []] [⟨fun y => Row I3 pr l.length cr l, none, none, [5]⟩, ⟨fun y => HC bc (ad.bT B a), none, none, []⟩, ⟨fun y => ai b 223 [.pointer (some ⟨bl, 0, none⟩), .int .i64 sz, .int .i64 mo, .slice po no co, .bool s.ended, .int .i64 0, .int .i64 s.kind, .int .i64 (s.left : Int), .bool s.last, li, di, .int .i64 (s.ax : Int), .int .i64 (s.bA : Int)], none, none, [5]⟩, ⟨fun y => LW bl B x [] 0, none, none, []⟩] F V.mixed ?_
       iterate 4 refine nM ?_
       refine nV (fun y hA L => iK (ad.hL B a) _ V.cA rfl ⟨_, rfl⟩ rfl (by omega) (by omega)) ?_
       refine aV (undef) _ _ (fun y => rfl) rfl (fun y => rfl) (fun y FF hA => fh (uB pr (ad.hL B a) cr (l.take (ad.hL B a)) (Row I3 pr l.length cr l) (by (rw [List.length_take]; omega)) (fun _ _ hh => oo rfl (by omega) hh) hc1) V.mY rfl (aq .nil) (by rintro _ _ ⟨hp, rfl⟩; exact kt (ad.tC h14 ⟨hq1, hq2⟩ hta hy hz (.inl hc1)) hp (aM (aq .nil) (by exact vx (M := FF) (F := F)) (fun w0 h hh => bO hh)))) ?_
       iterate 2 refine nM ?_
       refine nV (fun y hA L => dY (ad.hL B a) _ _ V.cA rfl ⟨_, rfl⟩ ⟨rfl, rfl⟩ rfl (by omega) (by omega) (by omega)) ?_
       refine aV (.bool true) _ _ (fun y => rfl) rfl (fun y => rfl) (fun y FF hA => (cI.fact (hA 5 (by decide)) (q := fun _ => False) rfl).elim) ?_
       refine aV (.bool true) _ _ (fun y => rfl) rfl (fun y => rfl) (fun y FF hA => (cI.fact (hA 5 (by decide)) (q := fun _ => False) rfl).elim) ?_
       refine aV (.bool true) _ _ (fun y => rfl) rfl (fun y => rfl) (fun y FF hA => (cI.fact (hA 5 (by decide)) (q := fun _ => False) rfl).elim) ?_
       refine aV (.bool true) _ _ (fun y => rfl) rfl (fun y => rfl) (fun y FF hA => (cI.fact (hA 5 (by decide)) (q := fun _ => False) rfl).elim) ?_
       refine aV (.bool true) _ _ (fun y => rfl) rfl (fun y => rfl) (fun y FF hA => (cI.fact (hA 5 (by decide)) (q := fun _ => False) rfl).elim) ?_
       refine aV (.bool true) _ _ (fun y => rfl) rfl (fun y => rfl) (fun y FF hA => (cI.fact (hA 5 (by decide)) (q := fun _ => False) rfl).elim) ?_
       refine aV (.bool true) _ _ (fun y => rfl) rfl (fun y => rfl) (fun y FF hA => (cI.fact (hA 5 (by decide)) (q := fun _ => False) rfl).elim) ?_
       refine cN ?_
       intro y hA
       exact (cI.fact (hA 5 (by exact Nat.le_of_ble_eq_true rfl)) (q := fun _ => False) rfl).elim
    ·refine rC bZ 1 rfl ?_
     have hkC : k = ad.hC B a := by omega
     rw [show ad.gH B (a + 14) k = ad.bT B a from by rw [hkC]; exact (ad.yk B a).symm, show a + 14 + 3 * k = ad.dj B a from by omega]
     have hta : ad.dj B a ≤ 8 * B.length := by omega
     refine rC bZ 2 rfl ?_
     refine c9 (uB p37 19 c37 (ad.bT B a) (Row I3 p37 19 c37 (ad.bT B a)) (ad.gZ B a).symm (fun _ _ hh => uc (ad.gZ B a).symm hh) hy) V.mY rfl (aq .nil) ?_
     rintro _ _ ⟨hp, rfl⟩
     refine (cS ?_)
     exact dk (ad.DT h14 ⟨hq1, hq2⟩ hta hy) hp (aM (.cons ay .nil) fS (fun w0 h hh => bO hh))
  ·refine rC bZ 1 rfl ?_
   rw [he1, he2, he3]
   refine rC bZ 2 rfl ?_
   refine oV (cJ (eO rfl rfl) (by omega)) ?_
   refine rO bZ 2 rfl ?_
   refine cL rfl ?_
   refine oV (bR (eO rfl rfl) (by omega)) ?_
   refine oV (ni rfl rfl) ?_
   refine c9 (kT 4) V.kG rfl .nil ?_
   rintro _ _ ⟨rfl, rfl⟩
   refine (cS ?_)
   exact dk (ad.w3 h14 (by omega)) (PE.no (by decide)) (aM (aq .nil) bC (fun w0 h hh => bO hh))
  ·refine rC bZ 1 rfl ?_
   rw [he1, he2, he3]
   refine rC bZ 2 rfl ?_
   refine oV (bR (eO rfl rfl) (by omega)) ?_
   refine rO bZ 4 rfl ?_
   refine c9 (kT 4) V.kG rfl .nil ?_
   rintro _ _ ⟨rfl, rfl⟩
   refine (cS ?_)
   exact dk (ad.w3 h14 (by omega)) (PE.no (by decide)) (aM (aq .nil) bC (fun w0 h hh => bO hh))
end Go.Proofs.YtmaiakpjgomnpaaGreat
namespace Go.Sl
def CD (li di : Value) (s : ad.St) : ab := fun w0 h => s.kind ≤ 0 ∨ ∃ l d, li = .pointer (some ⟨l, 0, none⟩) ∧ di = .pointer (some ⟨d, 0, none⟩) ∧ bU w0 [HC l s.lits, HC d s.dD] h
structure Pv where
  li : Value
  di : Value
def MM (b bl : Nat) (sz mo : Int) (B : List Int) (s : ad.St) : ab := fun w0 h => ∃ i : Pv, True ∧ bU w0 [MS b bl sz mo i.li i.di s, LW bl B s.at_ [] 0, CD i.li i.di s] h
theorem vE {w0 : World} {Bs : List ab} {A : ab} {h : Hp} (hA : ∀ h, bU w0 Bs h → A w0 h) (hh : bU w0 Bs h) : bU w0 [A] h := ⟨h, fun _ => none, fun _ => .inr rfl, Hp.le_refl _, (fun _ _ e => by cases e), hA h hh, trivial⟩
theorem n4 {w0 : World} {X : ab} {L L' : List ab} {h : Hp} (k : ∀ h, bU w0 L h → bU w0 L' h) (hh : bU w0 (X :: L) h) : bU w0 (X :: L') h := by
  obtain ⟨h1, h2, a, b, c, d, e⟩ := hh
  exact ⟨h1, h2, a, b, c, d, k h2 e⟩
theorem mD {b bl : Nat} {sz mo : Int} {B : List Int} {s : ad.St} {li di : Value} {w0 : World} {h : Hp} (hk : s.kind ≤ 0) (hh : bU w0 [MS b bl sz mo li di s, LW bl B s.at_ [] 0] h) : MM b bl sz mo B s w0 h :=
  ⟨⟨li, di⟩, trivial, n4 (fun h hh => n4 (fun h hh => vE (fun h _ => .inl hk) hh) hh) hh⟩
theorem lg {b bl l d : Nat} {sz mo : Int} {B : List Int} {s : ad.St} {w0 : World} {h : Hp} (hh : bU w0 [MS b bl sz mo (.pointer (some ⟨l, 0, none⟩)) (.pointer (some ⟨d, 0, none⟩)) s, LW bl B s.at_ [] 0, HC l s.lits, HC d s.dD] h) : MM b bl sz mo B s w0 h :=
  ⟨⟨_, _⟩, trivial, n4 (fun h hh => n4 (fun h hh => vE (fun h hh => .inr ⟨l, d, rfl, rfl, hh⟩) hh) hh) hh⟩
theorem fm {b bl : Nat} {sz mo : Int} {B : List Int} {s : ad.St} {li di : Value} {w0 : World} {h : Hp} (hh : bU w0 [MS b bl sz mo li di s, LW bl B s.at_ [] 0, CD li di s] h) : MM b bl sz mo B s w0 h := ⟨⟨li, di⟩, trivial, hh⟩
theorem zP {li di : Value} {s : ad.St} {w0 : World} {h : Hp} (hk : 0 < s.kind) (hh : CD li di s w0 h) : ∃ i : Nat × Nat, (li = .pointer (some ⟨i.1, 0, none⟩) ∧ di = .pointer (some ⟨i.2, 0, none⟩)) ∧ bU w0 [HC i.1 s.lits, HC i.2 s.dD] h := by
  rcases hh with hh | ⟨l, d, h1, h2, h3⟩
  · exact absurd hk (by omega)
  · exact ⟨(l, d), ⟨h1, h2⟩, h3⟩
theorem aC.fold {P : Program} {f : FuncId} {args : List Value} {A : ab} {Bs : List ab} {Post : Ending → List ab → Prop} (h : aC P f args [A] Post) (hA : ∀ w0 h, bU w0 Bs h → A w0 h) : aC P f args Bs Post := fun w0 F w hi => h w0 F w (hi.cls (hA w0))
end Go.Sl
