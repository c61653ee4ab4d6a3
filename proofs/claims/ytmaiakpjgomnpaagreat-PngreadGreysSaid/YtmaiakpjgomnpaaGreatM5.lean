/- Walks of functions that the law reaches, and what they lean on; no conditions. -/
import Derived.Test.YtmaiakpjgomnpaaGreatM0
import Derived.Test.YtmaiakpjgomnpaaGreatM4
import Derived.Test.YtmaiakpjgomnpaaGreatM2
import Derived.Test.YtmaiakpjgomnpaaGreatM1
import Derived.KernelRfl
import Derived.Test.YtmaiakpjgomnpaaGreatM3
set_option linter.unusedVariables false
set_option linter.unusedSimpArgs false
set_option maxRecDepth 100000
namespace Go.Proofs.YtmaiakpjgomnpaaGreat
open Go.Sl 
theorem lU (p : Option Addr) (n cap : Nat) (fv : Value) (P A B C Z : List Int) (a b k0 : Int) (ha : a = P.length) (hbb : b = (P.length + A.length + B.length : Nat)) (hk0 : k0 = A.length) (hC : C.length = A.length) (hn : P.length + A.length + B.length + A.length + Z.length = n) (hn2 : n ≤ 1000000) : aA Tryz.prog 256 [.slice p n cap, .int .i64 a, .int .i64 b, .int .i64 k0, fv] [Row I3 p n cap (P ++ A ++ B ++ C ++ Z)] (aF fun v G => v = .tuple #[] ∧ G = [Row I3 p n cap (P ++ C ++ B ++ A ++ Z)]) := by
 refine au [(0, _), (1, _), (2, _), (3, _), (4, _)] Tryz.func256 rfl Tryz.ntmps256 rfl rfl ?_
 intro w0 F
 refine (QU) ?_
 rw [show P ++ A ++ B ++ C ++ Z = P ++ (C.take 0 ++ A.drop 0) ++ B ++ (A.take 0 ++ C.drop 0) ++ Z by simp]
 refine cE (fun (k : Nat) => [(0, .slice p n cap), (1, .int .i64 a), (2, .int .i64 b), (3, .int .i64 k0), (10, .int .i64 (k : Int))]) (fun (k : Nat) => Row I3 p n cap (P ++ (C.take k ++ A.drop k) ++ B ++ (A.take k ++ C.drop k) ++ Z) :: F) (fun (k : Nat) => k ≤ A.length) (fun (k : Nat) => A.length - k) (i1 (0) ?_ (bP ln) (sub (ao .nil) ak)) ?_
 ·exact Nat.zero_le _
 intro k
 rintro hk
 refine rL TT 8 rfl ?_
 refine aD rfl (fun h13 => ?_) (fun h13 => ?_)
 ·refine (Q5) ?_
  refine wN [pz 0 [] [0], pz 0 [] [1], pz 0 [] [10], pz 6 [1, 2] [], pz 0 [] [0], pz 0 [] [2], pz 0 [] [10], pz 96 [5, 6] [], pz 0 [] [0], pz 0 [] [2], pz 0 [] [10], pz 1536 [9, 10] [], pz 3840 [8, 11] [], pz 7936 [12] [], pz 0 [] [0], pz 0 [] [1], pz 0 [] [10], pz 98304 [15, 16] [], pz 245760 [14, 17] [], pz 507904 [18] [], pz 1048335 [0, 3] [], pz 2096911 [20, 13] [], pz 4194303 [4, 7] [], pz 8388607 [22, 19] []] [⟨fun y => Row I3 p n cap (P ++ (C.take k ++ A.drop k) ++ B ++ (A.take k ++ C.drop k) ++ Z), none, some 21, [12, 13, 18, 19, 20]⟩, ⟨fun y => Row I3 p n cap ((P ++ (C.take k ++ A.drop k) ++ B ++ (A.take k ++ C.drop k) ++ Z).set (a + (k : Int)).toNat ((I3).g (P ++ (C.take k ++ A.drop k) ++ B ++ (A.take k ++ C.drop k) ++ Z) (b + (k : Int)))), some 21, some 23, [22]⟩, ⟨fun y => Row I3 p n cap (((P ++ (C.take k ++ A.drop k) ++ B ++ (A.take k ++ C.drop k) ++ Z).set (a + (k : Int)).toNat ((I3).g (P ++ (C.take k ++ A.drop k) ++ B ++ (A.take k ++ C.drop k) ++ Z) (b + (k : Int)))).set (b + (k : Int)).toNat ((I3).g (P ++ (C.take k ++ A.drop k) ++ B ++ (A.take k ++ C.drop k) ++ Z) (a + (k : Int)))), some 23, none, []⟩] F V.mixed ?_
  iterate 3 refine nM ?_
  refine (Qz) ?_
  iterate 3 refine nM ?_
  refine (Qz) ?_
  iterate 3 refine nM ?_
  refine nV (fun y hA L => ei rfl rfl wI) ?_
  refine nR (fun y FF hA => xI V.cH (own aB)) ?_
  refine nR (fun y FF hA => xL V.s3 (own aB)) ?_
  iterate 3 refine nM ?_
  refine (Qz) ?_
  refine (mg) ?_
  refine (xl) ?_
  refine (mg) ?_
  refine (vm) ?_
  refine (mg) ?_
  refine (vm) ?_
  refine (Qb) ?_
  intro y hA
  clear hA
  show ks _ _ _ _ (Row I3 p n cap (((P ++ (C.take k ++ A.drop k) ++ B ++ (A.take k ++ C.drop k) ++ Z).set (a + (k : Int)).toNat ((I3).g (P ++ (C.take k ++ A.drop k) ++ B ++ (A.take k ++ C.drop k) ++ Z) (b + (k : Int)))).set (b + (k : Int)).toNat ((I3).g (P ++ (C.take k ++ A.drop k) ++ B ++ (A.take k ++ C.drop k) ++ Z) (a + (k : Int)))) :: F)
  refine jh<|bj<|(Qo)<|(Q7)<|(zZ)<|(pf) ?_
  refine c4 ?_
  have e1 : (a + (k : Int)).toNat = P.length + k := by omega
  have e2 : (b + (k : Int)).toNat = P.length + A.length + B.length + k := by omega
  simp only [Ec.g, e1, e2]
  rw [cu.y8 (by omega) hC]
  refine j1 (k + 1) ?_ (bP ln) (sub (ao .nil) ak)
  exact ⟨by omega, by omega⟩
 ·refine (Q5) ?_
  have hke : k = A.length := by omega
  subst hke
  rw [show P ++ (C.take A.length ++ A.drop A.length) ++ B ++ (A.take A.length ++ C.drop A.length) ++ Z = P ++ C ++ B ++ A ++ Z by rw [List.drop_length, List.take_length, ← hC, List.take_length, List.drop_length]; simp]
  exact gn eH ⟨rfl, rfl⟩ (sub (ao .nil) ak)
theorem Dl (p : Option Addr) (n cap : Nat) (fv : Value) (P X Y Z : List Int) (a m b : Int) (ha : a = P.length) (hm : m = (P.length + X.length : Nat)) (hbb : b = (P.length + X.length + Y.length : Nat)) (hX : 0 < X.length) (hY : 0 < Y.length) (hn : P.length + X.length + Y.length + Z.length = n) (hn2 : n ≤ 1000000) : aA Tryz.prog 253 [.slice p n cap, .int .i64 a, .int .i64 m, .int .i64 b, fv] [Row I3 p n cap (P ++ X ++ Y ++ Z)] (aF fun v G => v = .tuple #[] ∧ G = [Row I3 p n cap (P ++ Y ++ X ++ Z)]) := by
 refine au [(0, _), (1, _), (2, _), (3, _), (4, _)] Tryz.func253 rfl Tryz.ntmps253 rfl rfl ?_
 intro w0 F
 refine DI TT 18 rfl (by omega) ?_
 rw [show m - a = (X.length : Int) by omega, show b - m = (Y.length : Int) by omega]
 refine Ki (fun (P2 : List Int) (X2 : List Int) (Y2 : List Int) (Z2 : List Int) => [(0, .slice p n cap), (2, .int .i64 m), (4, fv), (10, .int .i64 (X2.length : Int)), (11, .int .i64 (Y2.length : Int))]) (fun (P2 : List Int) (X2 : List Int) (Y2 : List Int) (Z2 : List Int) => Row I3 p n cap (P2 ++ X2 ++ Y2 ++ Z2) :: F) (fun (P2 : List Int) (X2 : List Int) (Y2 : List Int) (Z2 : List Int) => P2 ++ Y2 ++ X2 ++ Z2 = P ++ Y ++ X ++ Z ∧ m = (P2.length + X2.length : Nat) ∧ 0 < X2.length ∧ 0 < Y2.length ∧ P2.length + X2.length + Y2.length + Z2.length = n) (fun (P2 : List Int) (X2 : List Int) (Y2 : List Int) (Z2 : List Int) => X2.length + Y2.length) (i4 (P) (X) (Y) (Z) ?_ (bP ln) (sub (ao .nil) ak)) ?_
 ·exact ⟨rfl, hm, hX, hY, hn⟩
 intro P2 X2 Y2 Z2
 rintro ⟨hT, hm2, hX2, hY2, hn3⟩
 refine rL TT 8 rfl ?_
 refine aD rfl (fun h20 => ?_) (fun h20 => ?_)
 ·refine (QC) ?_
  refine aD rfl (fun h23 => ?_) (fun h23 => ?_)
  ·refine (Qa) ?_
   obtain ⟨A, B, hX2, hA⟩ : ∃ A B, X2 = A ++ B ∧ A.length = Y2.length := ⟨X2.take Y2.length, X2.drop Y2.length, by simp, by simp; omega⟩
   subst hX2
   rw [← List.append_assoc P2 A B]
   refine (vf) ?_
   refine aj (lU p n cap _ P2 A B Y2 Z2 _ _ _ (by omega) (by (simp only [List.length_append, List.length_nil] at *; omega)) (by omega) (by omega) (by (simp only [List.length_append, List.length_nil] at *; omega)) hn2) V.Fy  rfl (ao .nil) rfl ?_
   rintro _ _ ⟨rfl, rfl⟩
   refine (sY) ?_
   (rw [show (((A ++ B).length : Nat) : Int) - (Y2.length : Int) = (B.length : Int) by simp only [List.length_append]; omega, show (Y2.length : Int) = (A.length : Int) by omega]; simp only [List.length_append] at *; exact j4 (y0 := P2 ++ Y2) (y1 := B) (y2 := A) (y3 := Z2) ⟨⟨by rw [← hT]; simp, by simp only [List.length_append]; omega, by omega, by omega, by simp only [List.length_append]; omega⟩, by omega⟩ (bP ln) (sub (ao .nil) ak))
  ·refine (Qa) ?_
   obtain ⟨B, C2, hY2, hC2⟩ : ∃ B C2, Y2 = B ++ C2 ∧ C2.length = X2.length := ⟨Y2.take (Y2.length - X2.length), Y2.drop (Y2.length - X2.length), by simp, by simp; omega⟩
   subst hY2
   rw [← List.append_assoc (P2 ++ X2) B C2]
   refine (E6) ?_
   refine aj (lU p n cap _ P2 X2 B C2 Z2 _ _ _ (by omega) (by (simp only [List.length_append, List.length_nil] at *; omega)) (by omega) (by omega) (by (simp only [List.length_append, List.length_nil] at *; omega)) hn2) V.Fy  rfl (ao .nil) rfl ?_
   rintro _ _ ⟨rfl, rfl⟩
   refine (sY) ?_
   (rw [show (((B ++ C2).length : Nat) : Int) - (X2.length : Int) = (B.length : Int) by simp only [List.length_append]; omega, show (X2.length : Int) = (C2.length : Int) by omega, List.append_assoc (P2 ++ C2 ++ B) X2 Z2]; simp only [List.length_append] at *; exact j4 (y0 := P2) (y1 := C2) (y2 := B) (y3 := X2 ++ Z2) ⟨⟨by rw [← hT]; simp, by omega, by omega, by omega, by simp only [List.length_append]; omega⟩, by omega⟩ (bP ln) (sub (ao .nil) ak))
 ·refine (Qf) ?_
  rw [show P2 ++ X2 ++ Y2 ++ Z2 = P2 ++ X2 ++ [] ++ Y2 ++ Z2 by simp]
  refine (vf) ?_
  refine aj (lU p n cap _ P2 X2 [] Y2 Z2 _ _ _ (by omega) (by omega) (by omega) (by omega) (by (simp only [List.length_append, List.length_nil] at *; omega)) hn2) V.Fy  rfl (ao .nil) rfl ?_
  rintro _ _ ⟨rfl, rfl⟩
  refine c4 ?_
  rw [show P2 ++ Y2 ++ [] ++ X2 ++ Z2 = P ++ Y ++ X ++ Z by rw [List.append_nil]; exact hT]
  exact gn eH ⟨rfl, rfl⟩ (sub (ao .nil) ak)
set_option maxHeartbeats 4000000 in
theorem oT (p : Option Addr) (n cap : Nat) (cf : Nat) (fs cs : List Value) (S : ad) (key : Int → Int) (Pd : Int → Prop) (hb : ay Tryz.prog cf = true) (hf : ∀ x y, Pd x → Pd y → aA Tryz.prog cf (fs ++ [.int .i64 x, .int .i64 y] ++ cs) [S] (aF fun v G => v = .int .i64 (lr (key x) (key y)) ∧ G = [S])) (l : List Int) (aI bI : Int) (a b : Nat) (ha : aI = a) (hbI : bI = b) (hab : a ≤ b) (hbn : b ≤ n) (hn2 : n ≤ 1000000) (hpd : ∀ i, i < n → Pd (l.getD i I3.d)) : aA Tryz.prog 245 [.slice p n cap, .int .i64 aI, .int .i64 bI, .func (.func cf) fs.toArray cs.toArray] [Row I3 p n cap (l), S] (aF fun v G => v = .tuple #[] ∧ ∃ l2, cu.Rl key I3.d l l2 a b ∧ cu.Sd key I3.d l2 a b ∧ G = [Row I3 p n cap (l2), S]) := by
 refine au [(0, _), (1, _), (2, _), (3, _)] Tryz.func245 rfl Tryz.ntmps245 rfl rfl ?_
 intro w0 F
 refine IZ (own aB) (fun hlen => ?_)
 refine DI TT 8 rfl (by omega) ?_
 rw [show aI + 1 = ((a + 1 : Nat) : Int) by omega]
 refine gk (fun (i : Nat) (l1 : List Int) => [(0, .slice p n cap), (1, .int .i64 aI), (2, .int .i64 bI), (3, .func (.func cf) fs.toArray cs.toArray), (8, .int .i64 (i : Int))]) (fun (i : Nat) (l1 : List Int) => Row I3 p n cap (l1) :: S :: F) (fun (i : Nat) (l1 : List Int) => a + 1 ≤ i ∧ (i ≤ b ∨ i = a + 1) ∧ cu.Rl key I3.d l l1 a b ∧ cu.Sd key I3.d l1 a i) (fun (i : Nat) (l1 : List Int) => b - i) (i2 (a + 1) (_) ?_ (bP ln) (sub (aO .nil) ak)) ?_
 ·exact ⟨Nat.le_refl _, .inr rfl, cu.Rl.refl _ _ _, cu.Sd.small (Nat.le_refl _)⟩
 intro i l1
 rintro ⟨hi1, hi2, hR1, hS1⟩
 refine rL TT 8 rfl ?_
 refine aD rfl (fun h14 => ?_) (fun h14 => ?_)
 ·refine (ox) ?_
  refine gk (fun (j : Nat) (l2 : List Int) => [(0, .slice p n cap), (1, .int .i64 aI), (2, .int .i64 bI), (3, .func (.func cf) fs.toArray cs.toArray), (8, .int .i64 (i : Int)), (9, .int .i64 (j : Int))]) (fun (j : Nat) (l2 : List Int) => Row I3 p n cap (l2) :: S :: F) (fun (j : Nat) (l2 : List Int) => a ≤ j ∧ j ≤ i ∧ cu.Rl key I3.d l l2 a b ∧ cu.Ins key I3.d l2 a j i) (fun (j : Nat) (l2 : List Int) => j) (i2 (i) (_) ?_ (jx (bP ln)) (sub (aO .nil) ak)) ?_
  ·exact ⟨by omega, Nat.le_refl _, hR1, cu.Ins.start hS1⟩
  intro j l2
  rintro ⟨hj1, hj2, hR2, hI2⟩
  refine rL TT 2 rfl ?_
  have hpd2 := hR2.pd (Pd := Pd) hbn hpd
  have hlen2 := hR2.len
  by_cases h20 : aI < (j : Int)
  ·refine wN [pz 0 [] [9], pz 0 [] [1], pz 3 [0, 1] [], pz 7 [2] [], pz 15 [3] [3], pz 15 [3] [0], pz 15 [3] [9], pz 111 [5, 6, 3] [], pz 239 [7, 3] [], pz 15 [3] [0], pz 15 [3] [9], pz 1039 [10, 3] [], pz 3599 [9, 11, 3] [], pz 7695 [12, 3] [], pz 16383 [4, 8, 13, 3] [], pz 32767 [14, 3] [], pz 65535 [3, 15] []] [⟨fun y => Row I3 p n cap (l2), none, none, [7, 8, 12, 13]⟩, ⟨fun y => S, none, some 14, []⟩, ⟨fun y => S, some 14, none, []⟩] F V.mixed ?_
   iterate 2 refine nM ?_
   refine nV (fun y hA L => c9 (ed rfl rfl) h20) ?_
   refine nM ?_
   refine (DO) ?_
   refine (DO) ?_
   refine (DO) ?_
   refine (V6) ?_
   refine (Va) ?_
   refine (DO) ?_
   refine (DO) ?_
   refine (Ww) ?_
   refine (V6) ?_
   refine (Va) ?_
   refine nE (fun y FF hA => gO rfl (kc (fs := fs) (cs := cs) (Post := [S]) (hf (I3.g l2 (j : Int)) (I3.g l2 ((j : Int) - 1)) (gP (k := j) (by omega) (hpd2 _ (by omega))) (gP (k := j - 1) (by omega) (hpd2 _ (by omega)))) hb rfl rfl (ao .nil) (fun v G h => by rcases h with ⟨rfl, rfl⟩; exact ⟨rfl, .refl _⟩))) ?_
   refine (UU) ?_
   refine nV (fun y hA L => ns rfl rfl) ?_
   refine (Qb) ?_
   intro y hA
   clear hA
   refine bj<|(V9) ?_
   refine a7 (M := Row I3 p n cap (l2) :: S :: F) (fun _ _ h => h) ?_
   refine aD rfl (fun h34 => ?_) (fun h34 => ?_)
   ·refine (Q5) ?_
    refine wN [pz 0 [] [0], pz 0 [] [9], pz 0 [] [0], pz 0 [] [9], pz 8 [3] [], pz 0 [] [0], pz 0 [] [9], pz 64 [6] [], pz 224 [5, 7] [], pz 480 [8] [], pz 0 [] [0], pz 0 [] [9], pz 3072 [10, 11] [], pz 7168 [12] [], pz 16355 [0, 1] [], pz 32739 [14, 9] [], pz 65535 [2, 4] [], pz 131071 [16, 13] []] [⟨fun y => Row I3 p n cap (l2), none, some 15, [8, 9, 12, 13, 14]⟩, ⟨fun y => S, none, none, []⟩, ⟨fun y => Row I3 p n cap ((l2).set (j : Int).toNat ((I3).g (l2) ((j : Int) - 1))), some 15, some 17, [16]⟩, ⟨fun y => Row I3 p n cap (((l2).set (j : Int).toNat ((I3).g (l2) ((j : Int) - 1))).set ((j : Int) - 1).toNat ((I3).g (l2) (j : Int))), some 17, none, []⟩] F V.mixed ?_
    iterate 4 refine nM ?_
    refine (uV) ?_
    iterate 2 refine nM ?_
    refine nV (fun y hA L => jX rfl rfl wI) ?_
    refine nR (fun y FF hA => xI V.cH (own aB)) ?_
    refine nR (fun y FF hA => xL V.s3 (own aB)) ?_
    iterate 2 refine nM ?_
    refine (mg) ?_
    refine (xl) ?_
    refine (mg) ?_
    refine (vm) ?_
    refine (mg) ?_
    refine (vm) ?_
    refine (Qb) ?_
    intro y hA
    clear hA
    show ks _ _ _ _ (S :: Row I3 p n cap (((l2).set (j : Int).toNat ((I3).g (l2) ((j : Int) - 1))).set ((j : Int) - 1).toNat ((I3).g (l2) (j : Int))) :: F)
    refine jh<|bj<|(Qo)<|(Q7) ?_
    refine oV (jX rfl rfl wI)<|(pf) ?_
    refine c4 ?_
    have hlt := jA.1 h34
    rw [gE j (by omega), gE (j - 1) (by omega)] at hlt
    have e1 : ((j : Int) - 1).toNat = j - 1 := by omega
    have e0 : (j : Int).toNat = j := by omega
    simp only [Ec.g, e1, e0]
    rw [show (j : Int) - 1 = ((j - 1 : Nat) : Int) by omega]
    exact j2 (j - 1) _ ⟨⟨by omega, by omega, hR2.trans (cu.Rl.ID (by omega) (by omega) (by omega) hlt), hI2.step (by omega) hj2 (by omega) hlt⟩, by omega⟩ (jx (bP ln)) (sub (.cons ax (ao .nil)) ak)
   ·exact jJ TT 11 rfl (by omega)<|j2 (i + 1) _ ⟨⟨by omega, by omega, hR2, hI2.fin hj1 (.inr (by have h := Int.not_lt.1 (fun h => h34 (jA.2 h)); rw [gE (j - 1) (by omega), gE j (by omega)] at h; exact h))⟩, by omega⟩ (bP ln) (sub (aO .nil) ak)
  ·refine wN [pz 0 [] [9], pz 0 [] [1], pz 3 [0, 1] [], pz 7 [2] [], pz 15 [3] [3], pz 15 [3] [0], pz 15 [3] [9], pz 111 [5, 6, 3] [], pz 239 [7, 3] [], pz 15 [3] [0], pz 15 [3] [9], pz 1039 [10, 3] [], pz 3599 [9, 11, 3] [], pz 7695 [12, 3] [], pz 16383 [4, 8, 13, 3] [], pz 32767 [14, 3] [], pz 65535 [3, 15] []] [⟨fun y => Row I3 p n cap (l2), none, none, []⟩, ⟨fun y => S, none, none, []⟩] F V.mixed ?_
   iterate 2 refine nM ?_
   refine nV (fun y hA L => bS (ed rfl rfl) h20) ?_
   refine nM ?_
   refine (jr) ?_
   refine (jr) ?_
   refine (jr) ?_
   refine (jr) ?_
   refine (jr) ?_
   refine (jr) ?_
   refine (jr) ?_
   refine (jr) ?_
   refine (jr) ?_
   refine (jr) ?_
   refine (jr) ?_
   refine (jr) ?_
   refine nV (fun y hA L => uH rfl rfl) ?_
   refine (Qb) ?_
   intro y hA
   clear hA
   refine bj<|(V9) ?_
   refine a7 (M := Row I3 p n cap (l2) :: S :: F) (fun _ _ h => h)<|(E6) ?_
   exact j2 (i + 1) _ ⟨⟨by omega, by omega, hR2, hI2.fin hj1 (.inl (by omega))⟩, by omega⟩ (bP ln) (sub (aO .nil) ak)
 ·refine (Q5) ?_
  exact gn eH ⟨rfl, l1, hR1, hS1.sub (Nat.le_refl _) (by omega), rfl⟩ (sub (aO .nil) ak)
set_option maxHeartbeats 16000000 in
theorem Da (p : Option Addr) (n cap : Nat) (cf : Nat) (fs cs : List Value) (S : ad) (key : Int → Int) (Pd : Int → Prop) (hb : ay Tryz.prog cf = true) (hf : ∀ x y, Pd x → Pd y → aA Tryz.prog cf (fs ++ [.int .i64 x, .int .i64 y] ++ cs) [S] (aF fun v G => v = .int .i64 (lr (key x) (key y)) ∧ G = [S])) (l : List Int) (a m b : Nat) (ham : a < m) (hmb : m < b) (hbn : b ≤ n) (hn2 : n ≤ 1000000) (hpd : ∀ i, i < n → Pd (l.getD i I3.d)) (h1 : cu.Sd key I3.d l a m) (h2 : cu.Sd key I3.d l m b) (ih : ∀ (l : List Int) (a2 m2 b2 : Nat), b2 - a2 < b - a → a2 < m2 → m2 < b2 → b2 ≤ n → (∀ i, i < n → Pd (l.getD i I3.d)) → cu.Sd key I3.d l a2 m2 → cu.Sd key I3.d l m2 b2 → aA Tryz.prog 246 [.slice p n cap, .int .i64 (a2 : Int), .int .i64 (m2 : Int), .int .i64 (b2 : Int), .func (.func cf) fs.toArray cs.toArray] [Row I3 p n cap (l), S] (aF fun v G => v = .tuple #[] ∧ ∃ l2, cu.Rl key I3.d l l2 a2 b2 ∧ cu.Sd key I3.d l2 a2 b2 ∧ G = [Row I3 p n cap (l2), S])) : aA Tryz.prog 246 [.slice p n cap, .int .i64 (a : Int), .int .i64 (m : Int), .int .i64 (b : Int), .func (.func cf) fs.toArray cs.toArray] [Row I3 p n cap (l), S] (aF fun v G => v = .tuple #[] ∧ ∃ l2, cu.Rl key I3.d l l2 a b ∧ cu.Sd key I3.d l2 a b ∧ G = [Row I3 p n cap (l2), S]) := by
 refine au [(0, _), (1, _), (2, _), (3, _), (4, _)] Tryz.func246 rfl Tryz.ntmps246 rfl rfl ?_
 intro w0 F
 refine IZ (own aB) (fun hlen => ?_)
 refine DI TT 9 rfl (by omega) ?_
 refine aD rfl (fun h28 => ?_) (fun h28 => ?_)
 ·refine rC TT 14 rfl ?_
  refine gk (fun (i : Nat) (j : Nat) => [(0, .slice p n cap), (1, .int .i64 (a : Int)), (4, .func (.func cf) fs.toArray cs.toArray), (10, .int .i64 (i : Int)), (11, .int .i64 (j : Int))]) (fun (i : Nat) (j : Nat) => Row I3 p n cap (l) :: S :: F) (fun (i : Nat) (j : Nat) => m ≤ i ∧ i ≤ j ∧ j ≤ b ∧ (∀ x, m ≤ x → x < i → key (l.getD x I3.d) < key (l.getD a I3.d)) ∧ (∀ x, j ≤ x → x < b → key (l.getD a I3.d) ≤ key (l.getD x I3.d))) (fun (i : Nat) (j : Nat) => j - i) (i2 (m) (b) ?_ (bP ln) (sub (aO .nil) ak)) ?_
  ·exact ⟨Nat.le_refl _, by omega, Nat.le_refl _, fun x x1 x2 => by omega, fun x x1 x2 => by omega⟩
  intro i j
  rintro ⟨hi1, hij, hj1, hlo, hhi⟩
  refine rL TT 8 rfl ?_
  refine aD rfl (fun h33 => ?_) (fun h33 => ?_)
  ·refine (vf)<|(CX)<|(H0)<|(IN)<|(pf) ?_
   obtain ⟨h, hhh⟩ : ∃ h : Nat, h = (i + j) / 2 := ⟨_, rfl⟩
   rw [show ((i : Int) + (j : Int)) / 2 = ((h : Nat) : Int) by omega]
   refine (Qg) ?_
   refine wN [pz 0 [] [4], pz 0 [] [0], pz 0 [] [12], pz 6 [1, 2] [], pz 14 [3] [], pz 0 [] [0], pz 0 [] [1], pz 96 [5, 6] [], pz 224 [7] [], pz 511 [0, 4, 8] [], pz 1023 [9] []] [⟨fun y => Row I3 p n cap (l), none, none, [3, 4, 7, 8]⟩, ⟨fun y => S, none, some 9, []⟩, ⟨fun y => S, some 9, none, []⟩] F V.mixed ?_
   iterate 3 refine nM ?_
   refine nR (fun y FF hA => xI V.cH (own aB)) ?_
   refine nR (fun y FF hA => xL V.s3 (own aB)) ?_
   iterate 2 refine nM ?_
   refine nR (fun y FF hA => xI V.cH (own aB)) ?_
   refine nR (fun y FF hA => xL V.s3 (own aB)) ?_
   refine nE (fun y FF hA => kc (fs := fs) (cs := cs) (Post := [S]) (hf (I3.g l (h : Int)) (I3.g l (a : Int)) (gP (k := h) (by omega) (hpd _ (by omega))) (gP (k := a) (by omega) (hpd _ (by omega)))) hb rfl rfl (ao .nil) (fun v G h => by rcases h with ⟨rfl, rfl⟩; exact ⟨rfl, .refl _⟩)) ?_
   refine nV (fun y hA L => dR rfl rfl) ?_
   refine cQ ?_
   intro y hA
   clear hA
   refine bj<|bD _ (.cons (d := 0) rfl (.cons (d := 1) rfl (.cons (d := 4) rfl (.cons (d := 10) rfl (.cons (d := 11) rfl (.cons (d := 12) rfl (.cons (d := 50) rfl (.nil _))))))))<|(OC) ?_
   refine aD rfl (fun h50 => ?_) (fun h50 => ?_)
   ·refine (ET) ?_
    exact j2 (h + 1) j ⟨⟨by omega, by omega, by omega, cu.Tb h2 (by omega) (by omega) (by have q := jA.1 h50; rw [gE (h) (by omega), gE (a) (by omega)] at q; exact q), hhi⟩, by omega⟩ (bP ln) (sub (aO .nil) ak)
   ·refine (Qf) ?_
    exact j2 i h ⟨⟨by omega, by omega, by omega, hlo, cu.Tc h2 (by omega) (by omega) (by have q := Int.not_lt.1 (fun z => h50 (jA.2 z)); rw [gE (a) (by omega), gE (h) (by omega)] at q; exact q)⟩, by omega⟩ (bP ln) (sub (aO .nil) ak)
  ·refine (Qs) ?_
   have hij : i = j := by omega
   subst hij
   have hma : m = a + 1 := by omega
   subst hma
   refine (Qi) ?_
   refine gk (fun (k : Nat) (l2 : List Int) => [(0, .slice p n cap), (10, .int .i64 (i : Int)), (13, .int .i64 (k : Int))]) (fun (k : Nat) (l2 : List Int) => Row I3 p n cap (l2) :: S :: F) (fun (k : Nat) (l2 : List Int) => a ≤ k ∧ k ≤ i - 1 ∧ cu.Mv key I3.d l l2 a b k) (fun (k : Nat) (l2 : List Int) => i - k) (i2 (a) (l) ?_ (gL ln) (sub (aO .nil) ak)) ?_
   ·exact ⟨Nat.le_refl _, by omega, cu.Mv.start _ _ _⟩
   intro k l2
   rintro ⟨hk1, hk2, hMv⟩
   refine Uw TT 9 rfl (by omega) ?_
   refine aD rfl (fun h58 => ?_) (fun h58 => ?_)
   ·refine (Q5) ?_
    refine wN [pz 0 [] [0], pz 0 [] [13], pz 0 [] [0], pz 0 [] [13], pz 8 [3] [], pz 0 [] [0], pz 0 [] [13], pz 64 [6] [], pz 224 [5, 7] [], pz 480 [8] [], pz 0 [] [0], pz 0 [] [13], pz 3072 [10, 11] [], pz 7168 [12] [], pz 16355 [0, 1] [], pz 32739 [14, 9] [], pz 65535 [2, 4] [], pz 131071 [16, 13] []] [⟨fun y => Row I3 p n cap (l2), none, some 15, [8, 9, 12, 13, 14]⟩, ⟨fun y => S, none, none, []⟩, ⟨fun y => Row I3 p n cap ((l2).set (k : Int).toNat ((I3).g (l2) ((k : Int) + 1))), some 15, some 17, [16]⟩, ⟨fun y => Row I3 p n cap (((l2).set (k : Int).toNat ((I3).g (l2) ((k : Int) + 1))).set ((k : Int) + 1).toNat ((I3).g (l2) (k : Int))), some 17, none, []⟩] F V.mixed ?_
    iterate 4 refine nM ?_
    refine (Qz) ?_
    iterate 2 refine nM ?_
    refine nV (fun y hA L => ei rfl rfl wI) ?_
    refine nR (fun y FF hA => xI V.cH (own aB)) ?_
    refine nR (fun y FF hA => xL V.s3 (own aB)) ?_
    iterate 2 refine nM ?_
    refine (mg) ?_
    refine (xl) ?_
    refine (mg) ?_
    refine (vm) ?_
    refine (mg) ?_
    refine (vm) ?_
    refine (Qb) ?_
    intro y hA
    clear hA
    show ks _ _ _ _ (S :: Row I3 p n cap (((l2).set (k : Int).toNat ((I3).g (l2) ((k : Int) + 1))).set ((k : Int) + 1).toNat ((I3).g (l2) (k : Int))) :: F)
    refine jh<|bj<|(Qo)<|(Q7)<|(zZ)<|(pf) ?_
    refine c4 ?_
    have hlen2 := hMv.rl.len
    have e1 : ((k : Int) + 1).toNat = k + 1 := by omega
    have e0 : (k : Int).toNat = k := by omega
    simp only [Ec.g, e1, e0]
    exact j2 (k + 1) _ ⟨⟨by omega, by omega, hMv.step (by omega) (by omega) (by omega) (hlo _ (by omega) (by omega))⟩, by omega⟩ (gL ln) (sub (.cons ax (ao .nil)) ak)
   ·refine (Qs) ?_
    have hke : k = i - 1 := by omega
    subst hke
    exact ag eH ⟨rfl, l2, hMv.rl, hMv.fin (by omega) (by omega) h2 hlo hhi, rfl⟩ (sub (aO .nil) ak)
 ·refine jJ TT 11 rfl (by omega) ?_
  refine aD rfl (fun h80 => ?_) (fun h80 => ?_)
  ·refine rC TT 14 rfl ?_
   refine gk (fun (i : Nat) (j : Nat) => [(0, .slice p n cap), (2, .int .i64 (m : Int)), (4, .func (.func cf) fs.toArray cs.toArray), (14, .int .i64 (i : Int)), (15, .int .i64 (j : Int))]) (fun (i : Nat) (j : Nat) => Row I3 p n cap (l) :: S :: F) (fun (i : Nat) (j : Nat) => a ≤ i ∧ i ≤ j ∧ j ≤ m ∧ (∀ x, a ≤ x → x < i → key (l.getD x I3.d) ≤ key (l.getD m I3.d)) ∧ (∀ x, j ≤ x → x < m → key (l.getD m I3.d) < key (l.getD x I3.d))) (fun (i : Nat) (j : Nat) => j - i) (i2 (a) (m) ?_ (bP ln) (sub (aO .nil) ak)) ?_
   ·exact ⟨Nat.le_refl _, by omega, Nat.le_refl _, fun x x1 x2 => by omega, fun x x1 x2 => by omega⟩
   intro i j
   rintro ⟨hi1, hij, hj1, hlo, hhi⟩
   refine rL TT 8 rfl ?_
   refine aD rfl (fun h85 => ?_) (fun h85 => ?_)
   ·refine (vf)<|(CX)<|(H0)<|(IN)<|(pf) ?_
    obtain ⟨h, hhh⟩ : ∃ h : Nat, h = (i + j) / 2 := ⟨_, rfl⟩
    rw [show ((i : Int) + (j : Int)) / 2 = ((h : Nat) : Int) by omega]
    refine (Qg) ?_
    refine wN [pz 0 [] [4], pz 0 [] [0], pz 0 [] [2], pz 6 [1, 2] [], pz 14 [3] [], pz 0 [] [0], pz 0 [] [16], pz 96 [5, 6] [], pz 224 [7] [], pz 511 [0, 4, 8] [], pz 1023 [9] [], pz 2047 [10] []] [⟨fun y => Row I3 p n cap (l), none, none, [3, 4, 7, 8]⟩, ⟨fun y => S, none, some 9, []⟩, ⟨fun y => S, some 9, none, []⟩] F V.mixed ?_
    iterate 3 refine nM ?_
    refine (mg) ?_
    refine (xl) ?_
    iterate 2 refine nM ?_
    refine nR (fun y FF hA => xI V.cH (own aB)) ?_
    refine nR (fun y FF hA => xL V.s3 (own aB)) ?_
    refine nE (fun y FF hA => kc (fs := fs) (cs := cs) (Post := [S]) (hf (I3.g l (m : Int)) (I3.g l (h : Int)) (gP (k := m) (by omega) (hpd _ (by omega))) (gP (k := h) (by omega) (hpd _ (by omega)))) hb rfl rfl (ao .nil) (fun v G h => by rcases h with ⟨rfl, rfl⟩; exact ⟨rfl, .refl _⟩)) ?_
    refine nV (fun y hA L => dR rfl rfl) ?_
    refine nV (fun y hA L => DH rfl) ?_
    refine cQ ?_
    intro y hA
    clear hA
    refine bj<|bD _ (.cons (d := 0) rfl (.cons (d := 2) rfl (.cons (d := 4) rfl (.cons (d := 14) rfl (.cons (d := 15) rfl (.cons (d := 16) rfl (.cons (d := 103) rfl (.nil _))))))))<|(OC) ?_
    refine aD rfl (fun h103 => ?_) (fun h103 => ?_)
    ·refine (ET) ?_
     exact j2 (h + 1) j ⟨⟨by omega, by omega, by omega, cu.Tv h1 (by omega) (by omega) (by have q := Int.not_lt.1 (fun z => h103 (jA.2 z)); rw [gE (h) (by omega), gE (m) (by omega)] at q; exact q), hhi⟩, by omega⟩ (bP ln) (sub (aO .nil) ak)
    ·refine (Qf) ?_
     exact j2 i h ⟨⟨by omega, by omega, by omega, hlo, cu.Sv h1 (by omega) (by omega) (by have q := jA.1 (Classical.not_not.1 h103); rw [gE (m) (by omega), gE (h) (by omega)] at q; exact q)⟩, by omega⟩ (bP ln) (sub (aO .nil) ak)
   ·refine (Qs) ?_
    have hij : i = j := by omega
    subst hij
    have hbm : b = m + 1 := by omega
    refine (Qi) ?_
    refine gk (fun (k : Nat) (l2 : List Int) => [(0, .slice p n cap), (14, .int .i64 (i : Int)), (17, .int .i64 (k : Int))]) (fun (k : Nat) (l2 : List Int) => Row I3 p n cap (l2) :: S :: F) (fun (k : Nat) (l2 : List Int) => i ≤ k ∧ k ≤ m ∧ cu.Mw key I3.d l l2 a b m k) (fun (k : Nat) (l2 : List Int) => k) (i2 (m) (l) ?_ (gL ln) (sub (aO .nil) ak)) ?_
    ·exact ⟨by omega, Nat.le_refl _, cu.Mw.start _ _ _ _⟩
    intro k l2
    rintro ⟨hk1, hk2, hMw⟩
    refine rL TT 8 rfl ?_
    refine aD rfl (fun h110 => ?_) (fun h110 => ?_)
    ·refine (Q5) ?_
     refine wN [pz 0 [] [0], pz 0 [] [17], pz 0 [] [0], pz 0 [] [17], pz 8 [3] [], pz 0 [] [0], pz 0 [] [17], pz 64 [6] [], pz 224 [5, 7] [], pz 480 [8] [], pz 0 [] [0], pz 0 [] [17], pz 3072 [10, 11] [], pz 7168 [12] [], pz 16355 [0, 1] [], pz 32739 [14, 9] [], pz 65535 [2, 4] [], pz 131071 [16, 13] []] [⟨fun y => Row I3 p n cap (l2), none, some 15, [8, 9, 12, 13, 14]⟩, ⟨fun y => S, none, none, []⟩, ⟨fun y => Row I3 p n cap ((l2).set (k : Int).toNat ((I3).g (l2) ((k : Int) - 1))), some 15, some 17, [16]⟩, ⟨fun y => Row I3 p n cap (((l2).set (k : Int).toNat ((I3).g (l2) ((k : Int) - 1))).set ((k : Int) - 1).toNat ((I3).g (l2) (k : Int))), some 17, none, []⟩] F V.mixed ?_
     iterate 4 refine nM ?_
     refine (uV) ?_
     iterate 2 refine nM ?_
     refine nV (fun y hA L => jX rfl rfl wI) ?_
     refine nR (fun y FF hA => xI V.cH (own aB)) ?_
     refine nR (fun y FF hA => xL V.s3 (own aB)) ?_
     iterate 2 refine nM ?_
     refine (mg) ?_
     refine (xl) ?_
     refine (mg) ?_
     refine (vm) ?_
     refine (mg) ?_
     refine (vm) ?_
     refine (Qb) ?_
     intro y hA
     clear hA
     show ks _ _ _ _ (S :: Row I3 p n cap (((l2).set (k : Int).toNat ((I3).g (l2) ((k : Int) - 1))).set ((k : Int) - 1).toNat ((I3).g (l2) (k : Int))) :: F)
     refine jh<|bj<|(Qo)<|(Q7) ?_
     refine oV (jX rfl rfl wI)<|(pf) ?_
     refine c4 ?_
     have hlen2 := hMw.rl.len
     have e1 : ((k : Int) - 1).toNat = k - 1 := by omega
     have e0 : (k : Int).toNat = k := by omega
     simp only [Ec.g, e1, e0]
     rw [show (k : Int) - 1 = ((k - 1 : Nat) : Int) by omega]
     exact j2 (k - 1) _ ⟨⟨by omega, by omega, hMw.step (by omega) (by omega) (by omega) (by omega) (hhi _ (by omega) (by omega))⟩, by omega⟩ (gL ln) (sub (.cons ax (ao .nil)) ak)
    ·refine (Qs) ?_
     have hke : k = i := by omega
     subst hke
     exact ag eH ⟨rfl, l2, hMw.rl, hMw.fin (by omega) (by omega) hbm h1 hlo hhi, rfl⟩ (sub (aO .nil) ak)
  ·refine jJ TT 7 rfl (by omega)<|(CX)<|(H0)<|(IN)<|(pf) ?_
   obtain ⟨aK, hmidmid⟩ : ∃ aK : Nat, aK = (a + b) / 2 := ⟨_, rfl⟩
   rw [show ((a : Int) + (b : Int)) / 2 = ((aK : Nat) : Int) by omega]
   refine iD TT 16 rfl (by omega) ?_
   refine AV (fun (st0 : Nat) (r0 : Nat) => [(0, .slice p n cap), (1, .int .i64 (a : Int)), (2, .int .i64 (m : Int)), (3, .int .i64 (b : Int)), (4, .func (.func cf) fs.toArray cs.toArray), (18, .int .i64 (aK : Int)), (19, .int .i64 ((aK : Int) + (m : Int))), (20, .int .i64 (st0 : Int)), (21, .int .i64 (r0 : Int))]) (fun (st0 : Nat) (r0 : Nat) => Row I3 p n cap (l) :: S :: F) (fun (st0 : Nat) (r0 : Nat) => st0 = (if aK < m then aK + m - b else a) ∧ r0 = (if aK < m then aK else m)) ?_ ?_
   ·refine rL TT 7 rfl ?_
    refine aD rfl (fun h140 => ?_) (fun h140 => ?_)
    ·refine (E6) ?_
     (rw [show (aK : Int) + (m : Int) - (b : Int) = ((aK + m - b : Nat) : Int) by omega]; exact j2 (aK + m - b) aK ⟨(if_pos (by omega)).symm, (if_pos (by omega)).symm⟩ (eg (bP ln)) (sub (aO .nil) ak))
    ·refine (QC) ?_
     exact j2 a m ⟨(if_neg (by omega)).symm, (if_neg (by omega)).symm⟩ (eg (bP ln)) (sub (aO .nil) ak)
   ·intro st0 r0
    rintro hst
    have hb0 : a ≤ st0 ∧ st0 ≤ r0 ∧ r0 ≤ m ∧ r0 ≤ aK ∧ aK + m ≤ st0 + b ∧ aK < b := by obtain ⟨e0, e1⟩ := hst; split at e0 <;> split at e1 <;> omega
    refine jJ TT 9 rfl (by omega) ?_
    refine gk (fun (s : Nat) (r : Nat) => [(0, .slice p n cap), (1, .int .i64 (a : Int)), (2, .int .i64 (m : Int)), (3, .int .i64 (b : Int)), (4, .func (.func cf) fs.toArray cs.toArray), (18, .int .i64 (aK : Int)), (19, .int .i64 ((aK : Int) + (m : Int))), (20, .int .i64 (s : Int)), (21, .int .i64 (r : Int)), (22, .int .i64 (((aK : Int) + (m : Int)) - 1))]) (fun (s : Nat) (r : Nat) => Row I3 p n cap (l) :: S :: F) (fun (s : Nat) (r : Nat) => st0 ≤ s ∧ s ≤ r ∧ r ≤ r0 ∧ (∀ x, st0 ≤ x → x < s → key (l.getD x I3.d) ≤ key (l.getD (aK + m - 1 - x) I3.d)) ∧ (∀ x, r ≤ x → x < r0 → key (l.getD (aK + m - 1 - x) I3.d) < key (l.getD x I3.d))) (fun (s : Nat) (r : Nat) => r - s) (i2 (st0) (r0) ?_ (bP (bP ln)) (sub (aO .nil) ak)) ?_
    ·exact ⟨Nat.le_refl _, by omega, Nat.le_refl _, fun x x1 x2 => by omega, fun x x1 x2 => by omega⟩
    intro s r
    rintro ⟨hs1, hsr1, hr1, hy, hno⟩
    refine rL TT 8 rfl ?_
    refine aD rfl (fun h151 => ?_) (fun h151 => ?_)
    ·refine (vf)<|(CX)<|(H0)<|(IN)<|(pf) ?_
     obtain ⟨h, hhh⟩ : ∃ h : Nat, h = (s + r) / 2 := ⟨_, rfl⟩
     rw [show ((s : Int) + (r : Int)) / 2 = ((h : Nat) : Int) by omega]
     refine (Qg) ?_
     refine wN [pz 0 [] [4], pz 0 [] [0], pz 0 [] [22], pz 0 [] [23], pz 12 [2, 3] [], pz 30 [1, 4] [], pz 62 [5] [], pz 0 [] [0], pz 0 [] [23], pz 384 [7, 8] [], pz 896 [9] [], pz 2047 [0, 6, 10] [], pz 4095 [11] [], pz 8191 [12] []] [⟨fun y => Row I3 p n cap (l), none, none, [5, 6, 9, 10]⟩, ⟨fun y => S, none, some 11, []⟩, ⟨fun y => S, some 11, none, []⟩] F V.mixed ?_
     iterate 4 refine nM ?_
     refine (uV) ?_
     refine (mg) ?_
     refine (xl) ?_
     iterate 2 refine nM ?_
     refine nR (fun y FF hA => xI V.cH (own aB)) ?_
     refine nR (fun y FF hA => xL V.s3 (own aB)) ?_
     refine nE (fun y FF hA => kc (fs := fs) (cs := cs) (Post := [S]) (hf (I3.g l ((((aK : Int) + (m : Int)) - 1) - (h : Int))) (I3.g l (h : Int)) (gP (k := aK + m - 1 - h) (by omega) (hpd _ (by omega))) (gP (k := h) (by omega) (hpd _ (by omega)))) hb rfl rfl (ao .nil) (fun v G h => by rcases h with ⟨rfl, rfl⟩; exact ⟨rfl, .refl _⟩)) ?_
     refine nV (fun y hA L => dR rfl rfl) ?_
     refine nV (fun y hA L => DH rfl) ?_
     refine cQ ?_
     intro y hA
     clear hA
     refine bj<|bD _ (.cons (d := 0) rfl (.cons (d := 1) rfl (.cons (d := 2) rfl (.cons (d := 3) rfl (.cons (d := 4) rfl (.cons (d := 18) rfl (.cons (d := 19) rfl (.cons (d := 20) rfl (.cons (d := 21) rfl (.cons (d := 22) rfl (.cons (d := 23) rfl (.cons (d := 171) rfl (.nil _)))))))))))))<|(OC) ?_
     refine aD rfl (fun h171 => ?_) (fun h171 => ?_)
     ·refine (ET) ?_
      exact j2 (h + 1) r ⟨⟨by omega, by omega, by omega, cu.PR ham hmb hmidmid h1 h2 hst.1 hst.2 (by omega) (by omega) (by have q := Int.not_lt.1 (fun z => h171 (jA.2 z)); rw [gE (h) (by omega), gE (aK + m - 1 - h) (by omega)] at q; exact q), hno⟩, by omega⟩ (bP (bP ln)) (sub (aO .nil) ak)
     ·refine (Qf) ?_
      exact j2 s h ⟨⟨by omega, by omega, by omega, hy, cu.Oe ham hmb hmidmid h1 h2 hst.1 hst.2 (by omega) (by omega) (by have q := jA.1 (Classical.not_not.1 h171); rw [gE (aK + m - 1 - h) (by omega), gE (h) (by omega)] at q; exact q)⟩, by omega⟩ (bP (bP ln)) (sub (aO .nil) ak)
    ·refine (Qi) ?_
     have hsr : s = r := by omega
     subst hsr
     obtain ⟨q1, q2, q3, q4, q5, q6, hlt, hc⟩ := cu.FK (by omega) ham hmb hmidmid h1 h2 (by rw [← hst.1]; omega) (by rw [← hst.2]; omega) (fun hh => hy (s - 1) (by rw [← hst.1] at hh; omega) (by rw [← hst.1] at hh; omega)) (fun hh => hno s (Nat.le_refl _) (by rw [← hst.2] at hh; omega))
     refine jJ TT 5 rfl (by omega) ?_
     obtain ⟨e, he⟩ : ∃ e : Nat, e = aK + m - s := ⟨_, rfl⟩
     rw [show (aK : Int) + (m : Int) - (s : Int) = ((e : Nat) : Int) by omega]
     refine (Q6) ?_
     refine iz (fun (l1 : List Int) => [(0, .slice p n cap), (1, .int .i64 (a : Int)), (3, .int .i64 (b : Int)), (4, .func (.func cf) fs.toArray cs.toArray), (18, .int .i64 (aK : Int)), (20, .int .i64 (s : Int)), (24, .int .i64 (e : Int))]) (fun (l1 : List Int) => Row I3 p n cap (l1) :: S :: F) (fun (l1 : List Int) => cu.mC key I3.d l l1 a s aK e b) ?_ ?_
     ·refine (Qm) ?_
      refine ke 181 rfl (fun h181 => ?_) (fun h181 => ?_)
      ·refine (Q1) ?_
       refine aD rfl (fun h185 => ?_) (fun h185 => ?_)
       ·obtain ⟨Pp, X, Y, Z, hl, hP, hX, hY, hXm, hYm⟩ := cu.blocks (d := I3.d) l s m e (by omega) (by omega) (by omega)
        subst hl
        refine (Qi) ?_
        refine aj (Dl p n cap _ Pp X Y Z (s : Int) (m : Int) (e : Int) (by omega) (by omega) (by omega) (by omega) (by omega) (by simp only [List.length_append] at hlen; omega) hn2) V.Xs  rfl (ao .nil) rfl ?_
        rintro _ _ ⟨rfl, rfl⟩
        refine c4 ?_
        refine j1 (_) ?_ (iE (bP ln)) (sub (aO .nil) ak)
        (subst he; exact cu.mC.X5 hP hX (by omega) h1 h2 ⟨q1, q2, q3, q4, q5, q6⟩ (hlt (by omega) (by omega)) hc hXm hYm)
       ·refine (Qa) ?_
        refine j1 (_) ?_ (iE (bP ln)) (sub (aO .nil) ak)
        (subst he; exact cu.mC.stay h1 h2 ⟨q1, q2, q3, q4, q5, q6⟩ hc (by omega))
      ·refine (Ql) ?_
       refine j1 (_) ?_ (iE (bP ln)) (sub (aO .nil) ak)
       (subst he; exact cu.mC.stay h1 h2 ⟨q1, q2, q3, q4, q5, q6⟩ hc (by omega))
     ·intro l1
      rintro hPt
      refine iz (fun (l2 : List Int) => [(0, .slice p n cap), (3, .int .i64 (b : Int)), (4, .func (.func cf) fs.toArray cs.toArray), (18, .int .i64 (aK : Int)), (24, .int .i64 (e : Int))]) (fun (l2 : List Int) => Row I3 p n cap (l2) :: S :: F) (fun (l2 : List Int) => cu.Rl key I3.d l1 l2 a aK ∧ cu.Sd key I3.d l2 a aK) ?_ ?_
      ·refine (Qm) ?_
       refine ke 195 rfl (fun h195 => ?_) (fun h195 => ?_)
       ·refine (Q1) ?_
        refine aD rfl (fun h199 => ?_) (fun h199 => ?_)
        ·refine (Qi) ?_
         refine aj (ih l1 a s aK (by omega) (by omega) (by omega) (by omega) (hPt.rl.pd (by omega) hpd) hPt.s1 hPt.s2) V.Bb  rfl (aO .nil) rfl ?_
         rintro _ _ ⟨rfl, l2, hr2, hs2, rfl⟩
         refine c4 ?_
         refine j1 (_) ?_ (bP ln) (sub (aO .nil) ak)
         exact ⟨hr2, hs2⟩
        ·refine (Qa) ?_
         refine j1 (_) ?_ (bP ln) (sub (aO .nil) ak)
         exact ⟨cu.Rl.refl _ _ _, cu.Sd.join hPt.s1 hPt.s2 (fun i j i1 i2 j1 j2 => by omega)⟩
       ·refine (Ql) ?_
        refine j1 (_) ?_ (bP ln) (sub (aO .nil) ak)
        exact ⟨cu.Rl.refl _ _ _, cu.Sd.join hPt.s1 hPt.s2 (fun i j i1 i2 j1 j2 => by omega)⟩
      ·intro l2
       rintro ⟨hR2, hS2⟩
       refine (Qi) ?_
       refine ke 209 rfl (fun h209 => ?_) (fun h209 => ?_)
       ·refine (Q1) ?_
        refine aD rfl (fun h213 => ?_) (fun h213 => ?_)
        ·refine (Qi) ?_
         refine aj (ih l2 aK e b (by omega) (by omega) (by omega) (by omega) (hR2.pd (by omega) (hPt.rl.pd (by omega) hpd)) (hPt.s3.congr (fun i i1 i2 => hR2.out i (by omega))) (hPt.s4.congr (fun i i1 i2 => hR2.out i (by omega)))) V.Bb  rfl (aO .nil) rfl ?_
         rintro _ _ ⟨rfl, l3, hr3, mK, rfl⟩
         exact c4<|gn eH ⟨rfl, l3, hPt.rl.trans ((hR2.wide (Nat.le_refl _) (by omega)).trans (hr3.wide (by omega) (Nat.le_refl _))), cu.Sd.join (hS2.congr (fun i i1 i2 => hr3.out i (by omega))) mK (cu.yZ (cu.nT hPt.cr hR2) hr3), rfl⟩ (sub (aO .nil) ak)
        ·refine (Qa) ?_
         exact gn eH ⟨rfl, l2, hPt.rl.trans (hR2.wide (Nat.le_refl _) (by omega)), cu.Sd.join hS2 (cu.Sd.join (hPt.s3.congr (fun i i1 i2 => hR2.out i (by omega))) (hPt.s4.congr (fun i i1 i2 => hR2.out i (by omega))) (fun i j i1 i2 j1 j2 => by omega)) (cu.nT hPt.cr hR2), rfl⟩ (sub (aO .nil) ak)
       ·refine (Ql) ?_
        exact gn eH ⟨rfl, l2, hPt.rl.trans (hR2.wide (Nat.le_refl _) (by omega)), cu.Sd.join hS2 (cu.Sd.join (hPt.s3.congr (fun i i1 i2 => hR2.out i (by omega))) (hPt.s4.congr (fun i i1 i2 => hR2.out i (by omega))) (fun i j i1 i2 j1 j2 => by omega)) (cu.nT hPt.cr hR2), rfl⟩ (sub (aO .nil) ak)
theorem r9 (p : Option Addr) (n cap : Nat) (cf : Nat) (fs cs : List Value) (S : ad) (key : Int → Int) (Pd : Int → Prop) (hb : ay Tryz.prog cf = true) (hf : ∀ x y, Pd x → Pd y → aA Tryz.prog cf (fs ++ [.int .i64 x, .int .i64 y] ++ cs) [S] (aF fun v G => v = .int .i64 (lr (key x) (key y)) ∧ G = [S])) (hn2 : n ≤ 1000000) : ∀ (k : Nat) (l : List Int) (a m b : Nat), b - a ≤ k → a < m → m < b → b ≤ n → (∀ i, i < n → Pd (l.getD i I3.d)) → cu.Sd key I3.d l a m → cu.Sd key I3.d l m b → aA Tryz.prog 246 [.slice p n cap, .int .i64 (a : Int), .int .i64 (m : Int), .int .i64 (b : Int), .func (.func cf) fs.toArray cs.toArray] [Row I3 p n cap (l), S] (aF fun v G => v = .tuple #[] ∧ ∃ l2, cu.Rl key I3.d l l2 a b ∧ cu.Sd key I3.d l2 a b ∧ G = [Row I3 p n cap (l2), S])
 | 0, l, a, m, b, hk, ham, hmb, hbn, hpd, h1, h2 => by omega
 | k + 1, l, a, m, b, hk, ham, hmb, hbn, hpd, h1, h2 => Da p n cap cf fs cs S key Pd hb hf l a m b ham hmb hbn hn2 hpd h1 h2 (fun l a2 m2 b2 hlt q1 q2 q3 q4 q5 q6 => r9 p n cap cf fs cs S key Pd hb hf hn2 k l a2 m2 b2 (by omega) q1 q2 q3 q4 q5 q6)
set_option maxHeartbeats 8000000 in
theorem Dj (p : Option Addr) (n cap : Nat) (cf : Nat) (fs cs : List Value) (S : ad) (key : Int → Int) (Pd : Int → Prop) (hb : ay Tryz.prog cf = true) (hf : ∀ x y, Pd x → Pd y → aA Tryz.prog cf (fs ++ [.int .i64 x, .int .i64 y] ++ cs) [S] (aF fun v G => v = .int .i64 (lr (key x) (key y)) ∧ G = [S])) (l : List Int) (hn2 : n ≤ 1000000) (hpd : ∀ i, i < n → Pd (l.getD i I3.d)) : aA Tryz.prog 229 [.slice p n cap, .int .i64 (n : Int), .func (.func cf) fs.toArray cs.toArray] [Row I3 p n cap (l), S] (aF fun v G => v = .tuple #[] ∧ ∃ l2, cu.Rl key I3.d l l2 0 n ∧ cu.Sd key I3.d l2 0 n ∧ G = [Row I3 p n cap (l2), S]) := by
 refine au [(0, _), (1, _), (2, _)] Tryz.func229 rfl Tryz.ntmps229 rfl rfl ?_
 intro w0 F
 refine rT TT 14 rfl ?_
 refine gk (fun (A : Nat) (l1 : List Int) => [(0, .slice p n cap), (1, .int .i64 (n : Int)), (2, .func (.func cf) fs.toArray cs.toArray), (6, .int .i64 20), (7, .int .i64 (A : Int)), (8, .int .i64 ((20 + A : Nat) : Int))]) (fun (A : Nat) (l1 : List Int) => Row I3 p n cap (l1) :: S :: F) (fun (A : Nat) (l1 : List Int) => 20 ∣ A ∧ A ≤ n ∧ cu.Rl key I3.d l l1 0 n ∧ cu.Bd key I3.d l1 20 A) (fun (A : Nat) (l1 : List Int) => n - A) (i2 (0) (l) ?_ (jx (bP ln)) (sub (aO .nil) ak)) ?_
 ·exact ⟨Nat.dvd_zero _, Nat.zero_le _, cu.Rl.refl _ _ _, cu.Bd.zero _ _ (by decide)⟩
 intro A l1
 rintro ⟨hA, hAn, hR1, hBd⟩
 refine rL TT 8 rfl ?_
 refine aD rfl (fun h13 => ?_) (fun h13 => ?_)
 ·refine (kB) ?_
  refine aj (oT p n cap cf fs cs S key Pd hb hf l1 _ _ A (20 + A) rfl rfl (by omega) (by omega) hn2 (hR1.pd (Nat.le_refl _) hpd)) V.PY  rfl (aO .nil) rfl ?_
  rintro _ _ ⟨rfl, l3, hr3, mK, rfl⟩
  refine iD TT 15 rfl (by omega) ?_
  rw [show ((20 + A : Nat) : Int) + 20 = ((20 + (20 + A) : Nat) : Int) by omega]
  exact j2 (20 + A) _ ⟨⟨by omega, by omega, hR1.trans (hr3.wide (Nat.zero_le _) (by omega)), hBd.step hA hr3 mK⟩, by omega⟩ (jx (bP ln)) (sub (aO .nil) ak)
 ·refine (ox) ?_
  refine aj (oT p n cap cf fs cs S key Pd hb hf l1 _ _ A n rfl rfl (by omega) (by omega) hn2 (hR1.pd (Nat.le_refl _) hpd)) V.PY  rfl (aO .nil) rfl ?_
  rintro _ _ ⟨rfl, l3, hr3, mK, rfl⟩
  refine (Qg) ?_
  refine gk (fun (bs : Nat) (l1 : List Int) => [(0, .slice p n cap), (1, .int .i64 (n : Int)), (2, .func (.func cf) fs.toArray cs.toArray), (6, .int .i64 (bs : Int))]) (fun (bs : Nat) (l1 : List Int) => Row I3 p n cap (l1) :: S :: F) (fun (bs : Nat) (l1 : List Int) => 0 < bs ∧ cu.Rl key I3.d l l1 0 n ∧ cu.Bk key I3.d l1 bs n) (fun (bs : Nat) (l1 : List Int) => n - bs) (i2 (20) (_) ?_ (eg ln) (sub (aO .nil) ak)) ?_
  ·exact ⟨by decide, hR1.trans (hr3.wide (Nat.zero_le _) (Nat.le_refl _)), hBd.fin hA hAn (by omega) hr3 mK⟩
  intro bs l1
  rintro ⟨hbs, hR1, hBk⟩
  refine rL TT 8 rfl ?_
  refine aD rfl (fun h30 => ?_) (fun h30 => ?_)
  ·refine jJ TT 13 rfl (by omega) ?_
   refine gk (fun (A : Nat) (l2 : List Int) => [(0, .slice p n cap), (1, .int .i64 (n : Int)), (2, .func (.func cf) fs.toArray cs.toArray), (6, .int .i64 (bs : Int)), (7, .int .i64 (A : Int)), (8, .int .i64 ((2 * bs + A : Nat) : Int))]) (fun (A : Nat) (l2 : List Int) => Row I3 p n cap (l2) :: S :: F) (fun (A : Nat) (l2 : List Int) => 2 * bs ∣ A ∧ A ≤ n ∧ cu.Rl key I3.d l l2 0 n ∧ cu.Bd key I3.d l2 (2 * bs) A ∧ cu.Br key I3.d l2 bs n A) (fun (A : Nat) (l2 : List Int) => n - A) (i2 (0) (_) ?_ (jx (bP ln)) (sub (aO .nil) ak)) ?_
   ·exact ⟨Nat.dvd_zero _, Nat.zero_le _, hR1, cu.Bd.zero _ _ (by omega), hBk.br⟩
   intro A l2
   rintro ⟨hA, hAn, hR2, hBd, hBr⟩
   refine rL TT 8 rfl ?_
   refine aD rfl (fun h35 => ?_) (fun h35 => ?_)
   ·refine (E6) ?_
    refine aj (r9 p n cap cf fs cs S key Pd hb hf hn2 _ l2 A (A + bs) (2 * bs + A) (Nat.le_refl _) (by omega) (by omega) (by omega) (hR2.pd (Nat.le_refl _) hpd) (hBr.two hA (by omega)).1 (hBr.two hA (by omega)).2) V.Bb  rfl (aO .nil) rfl ?_
    rintro _ _ ⟨rfl, l3, hr3, mK, rfl⟩
    refine iD TT 16 rfl (by omega) ?_
    rw [show ((2 * bs + A : Nat) : Int) + 2 * (bs : Int) = ((2 * bs + (2 * bs + A) : Nat) : Int) by omega]
    exact j2 (2 * bs + A) _ ⟨⟨Nat.dvd_add (Nat.dvd_refl _) hA, by omega, hR2.trans (hr3.wide (Nat.zero_le _) (by omega)), hBd.step hA hr3 mK, hBr.step (by omega) hr3⟩, by omega⟩ (jx (bP ln)) (sub (aO .nil) ak)
   ·refine jJ TT 21 rfl (by omega) ?_
    refine aD rfl (fun h54 => ?_) (fun h54 => ?_)
    ·refine (Qi) ?_
     refine aj (r9 p n cap cf fs cs S key Pd hb hf hn2 _ l2 A (A + bs) n (Nat.le_refl _) (by omega) (by omega) (by omega) (hR2.pd (Nat.le_refl _) hpd) (hBr.last hA (by omega) (by omega)).1 (hBr.last hA (by omega) (by omega)).2) V.Bb  rfl (aO .nil) rfl ?_
     rintro _ _ ⟨rfl, l3, hr3, mK, rfl⟩
     refine (QG) ?_
     rw [show (bs : Int) * 2 = ((2 * bs : Nat) : Int) by omega]
     exact j2 (2 * bs) _ ⟨⟨by omega, hR2.trans (hr3.wide (Nat.zero_le _) (Nat.le_refl _)), hBd.fin hA (by omega) (by omega) hr3 mK⟩, by omega⟩ (eg ln) (sub (aO .nil) ak)
    ·refine (vf) ?_
     rw [show (bs : Int) * 2 = ((2 * bs : Nat) : Int) by omega]
     exact j2 (2 * bs) _ ⟨⟨by omega, hR2, hBd.fin hA (by omega) (by omega) (cu.Rl.refl _ _ _) (hBr.one hA (by omega))⟩, by omega⟩ (eg ln) (sub (aO .nil) ak)
  ·refine (Q5) ?_
   exact gn eH ⟨rfl, l1, hR1, hBk.all (by omega), rfl⟩ (sub (aO .nil) ak)
theorem JE (p : Option Addr) (n cap : Nat) (cf : Nat) (fs cs : List Value) (S : ad) (key : Int → Int) (Pd : Int → Prop) (hb : ay Tryz.prog cf = true) (hf : ∀ x y, Pd x → Pd y → aA Tryz.prog cf (fs ++ [.int .i64 x, .int .i64 y] ++ cs) [S] (aF fun v G => v = .int .i64 (lr (key x) (key y)) ∧ G = [S])) (l : List Int) (hn2 : n ≤ 1000000) (hpd : ∀ i, i < n → Pd (l.getD i I3.d)) : aA Tryz.prog 216 [.slice p n cap, .func (.func cf) fs.toArray cs.toArray] [Row I3 p n cap (l), S] (aF fun v G => v = .tuple #[] ∧ ∃ l2, cu.Rl key I3.d l l2 0 n ∧ cu.Sd key I3.d l2 0 n ∧ G = [Row I3 p n cap (l2), S]) := by
 refine au [(0, _), (1, _)] Tryz.func216 rfl Tryz.ntmps216 rfl rfl ?_
 intro w0 F
 refine (QP) ?_
 refine aj (Dj p n cap cf fs cs S key Pd hb hf l hn2 hpd) V.W9  rfl (aO .nil) rfl ?_
 rintro _ _ ⟨rfl, l3, hr3, mK, rfl⟩
 exact c4<|gn eH ⟨rfl, l3, hr3, mK, rfl⟩ (sub (aO .nil) ak)
end Go.Proofs.YtmaiakpjgomnpaaGreat
namespace Go.Proofs.YtmaiakpjgomnpaaGreat
open Go.Sl 
theorem Ap (x : Int) : aA Tryz.prog 230 [.int .i64 x] [] (aF fun v G => v = .bool false ∧ G = []) := by
 refine au [(0, _)] Tryz.func230 rfl Tryz.ntmps230 rfl rfl ?_
 intro w0 F
 exact rT TT 14 rfl<|ag (av rfl) ⟨by simp, rfl⟩ (sub .nil ak)
theorem C8 (x y : Int) : aA Tryz.prog 218 [.int .i64 x, .int .i64 y] [] (aF fun v G => v = .int .i64 (lr x y) ∧ G = []) := by
 refine au [(0, _), (1, _)] Tryz.func218 rfl Tryz.ntmps218 rfl rfl ?_
 intro w0 F
 refine (QH) ?_
 refine aj (Ap x) V.L7  rfl .nil rfl ?_
 rintro _ _ ⟨rfl, rfl⟩
 refine (Q1) ?_
 refine aj (Ap y) V.L7  rfl .nil rfl ?_
 rintro _ _ ⟨rfl, rfl⟩
 refine rO TT 29 rfl ?_
 refine aD rfl (fun h16 => ?_) (fun h16 => ?_)
 ·refine (Qs) ?_
  exact ag (av rfl) ⟨by rw [lr, if_pos (by assumption)], rfl⟩ (sub .nil ak)
 ·refine (QC) ?_
  refine aD rfl (fun h19 => ?_) (fun h19 => ?_)
  ·refine (Qs) ?_
   exact ag (av rfl) ⟨by rw [lr, if_neg (by assumption), if_pos (by omega)], rfl⟩ (sub .nil ak)
  ·refine rC TT 8 rfl ?_
   exact ag (av rfl) ⟨by rw [lr, if_neg (by assumption), if_neg (by omega)], rfl⟩ (sub .nil ak)
theorem M9 (p : Option Addr) (n cap : Nat) (ls : List Int) (R : ad) (hR : ∀ w0 h, R w0 h → aE I3 p n ls w0 h) (bL : Nat) (x y : Int) (hx : 0 ≤ x ∧ x < n) (hy : 0 ≤ y ∧ y < n) : aA Tryz.prog 217 [.int .i64 x, .int .i64 y, .pointer (some ⟨bL, 0, none⟩)] [ai bL 47 [.slice p n cap], R] (aF fun v G => v = .int .i64 (lr (ls.getD x.toNat 0) (ls.getD y.toNat 0)) ∧ G = [ai bL 47 [.slice p n cap], R]) := by
 refine au [(0, _), (1, _), (2, _)] Tryz.func217 rfl Tryz.ntmps217 rfl rfl ?_
 intro w0 F
 refine (QU) ?_
 refine wN [pz 0 [] [2], pz 0 [] [0], pz 3 [0, 1] [], pz 7 [2] [], pz 0 [] [2], pz 0 [] [1], pz 48 [4, 5] [], pz 112 [6] [], pz 255 [3, 7] [], pz 511 [8] []] [⟨fun y => ai bL 47 [.slice p n cap], none, none, [0, 4]⟩, ⟨fun y => R, none, none, [2, 3, 6, 7]⟩] F V.mixed ?_
 refine (MY) ?_
 refine nM ?_
 refine nR (fun y FF hA => xI V.cH (by exact bK hR aB)) ?_
 refine nR (fun y FF hA => xL V.s3 (by exact bK hR aB)) ?_
 refine (MY) ?_
 refine nM ?_
 refine nR (fun y FF hA => xI V.cH (by exact bK hR aB)) ?_
 refine nR (fun y FF hA => xL V.s3 (by exact bK hR aB)) ?_
 refine nE (fun y FF hA => aV (Post := []) (C8 _ _) V.Xw rfl .nil (fun v G h => by rcases h with ⟨rfl, rfl⟩; exact ⟨rfl, .refl _⟩)) ?_
 refine nA ?_
 refine (Qb) ?_
 intro y hA
 clear hA
 refine bj<|bD _ (.cons (d := 5) rfl (.nil _))<|a7 (M := ai bL 47 [.slice p n cap] :: R :: F) (fun _ _ h => h)<|(Qa) ?_
 exact ag (av rfl) ⟨rfl, rfl⟩ (sub (aO .nil) ak)
theorem K8 (C : List Int) (all : Int) (hl : C.length = 16) (hC : ∀ i, 0 ≤ C.getD i 0 ∧ C.getD i 0 ≤ 320) : aA Tryz.prog 215 [.agg (ints .i64 C).toArray, .int .i64 all] [] (aF fun v G => v = .bool (ae.fJ C all) ∧ G = []) := by
 refine au [(0, _), (1, _)] Tryz.func215 rfl Tryz.ntmps215 rfl rfl ?_
 intro w0 F
 refine (Qt) ?_
 refine iI rfl (rK _ _) rfl ?_
 intro b2
 refine (QM) ?_
 refine cE (fun (k : Nat) => [(1, .int .i64 all), (2, .pointer (some ⟨b2, 0, none⟩)), (5, .int .i64 (ae.left C k)), (6, .int .i64 ((k : Int) + 1))]) (fun (k : Nat) => ai b2 229 (CA [] .i64 C []) :: F) (fun (k : Nat) => k ≤ 15 ∧ ∀ m, 1 ≤ m → m ≤ k → 0 ≤ ae.left C m) (fun (k : Nat) => 15 - k) (i1 (0) ?_ (eg ln) (sub (ao .nil) ak)) ?_
 ·exact ⟨by omega, fun m h1 h2 => by omega⟩
 intro k
 rintro ⟨hk, hno⟩
 have hcc := hC ((k : Int) + 1).toNat
 have hlb := ae.Bx (fun i => (hC i).1) hk
 have hl0 := ae.Jq hno
 have hlen : C.length = 16 := hl
 refine rL TT 7 rfl ?_
 refine aD rfl (fun h8 => ?_) (fun h8 => ?_)
 ·refine jJ TT 9 rfl (by omega)<|oV (ez (k + 1) rfl V.qJ rfl rfl (by omega))<|oV (jv ((k : Int) + 1) V.s3 rfl aB (by (simp only [List.length_cons, List.length_nil]; omega)) (by omega) (by omega))<|(Ad) ?_
  refine aD rfl (fun h18 => ?_) (fun h18 => ?_)
  ·refine (ox) ?_
   exact ag (av rfl) ⟨by rw [ae.wC (n := k + 1) (by omega) (by omega) (by rw [← ae.pB]; exact h18)], rfl⟩ (sub .nil bu)
  ·refine (vf) ?_
   have hno2 := ae.Fe hno h18
   rw [ae.pB]
   exact j1 (k + 1) ⟨⟨by omega, hno2⟩, by omega⟩ (eg ln) (sub (ao .nil) ak)
 ·refine (QC) ?_
  refine ke 21 rfl (fun h21 => ?_) (fun h21 => ?_)
  ·exact rO TT 16 rfl<|ag (av rfl) ⟨by rw [ae.mF hk h8 hno]; (simp [h21]; done), rfl⟩ (sub .nil bu)
  ·refine (Q8) ?_
   refine ke 25 rfl (fun h25 => ?_) (fun h25 => ?_)
   ·refine (QI) ?_
    exact ag (av rfl) ⟨by rw [ae.mF hk h8 hno]; (simp [h21, h25]; done), rfl⟩ (sub .nil bu)
   ·refine (Qg) ?_
    refine ke 28 rfl (fun h28 => ?_) (fun h28 => ?_)
    ·refine (Q0) ?_
     refine oV (ez 1 rfl V.qJ rfl rfl (by omega))<|(Q0) ?_
     refine oV (jv (1 : Int) V.s3 rfl aB (by (simp only [List.length_cons, List.length_nil]; omega)) (by omega) (by omega))<|(Qc) ?_
     exact ag (av rfl) ⟨by rw [ae.mF hk h8 hno]; (simp [h21, h25, h28]; done), rfl⟩ (sub .nil bu)
    ·refine (Qn) ?_
     exact ag (av rfl) ⟨by rw [ae.mF hk h8 hno]; (simp [h21, h25, h28]; done), rfl⟩ (sub .nil bu)
end Go.Proofs.YtmaiakpjgomnpaaGreat
namespace Go.Proofs.YtmaiakpjgomnpaaGreat
open Go.Sl 
attribute [local irreducible] ae.ord ae.gS ae.cK ae.bM ae.bY ae.words ae.eZ ae.lenOf ae.bb ae.left ae.fJ
set_option maxHeartbeats 1000000 in
theorem IV (p : Option Addr) (cap : Nat) (ls : List Int) (R : ad) (hR : ∀ w0 h, R w0 h → aE I3 p ls.length ls w0 h) : aA Tryz.prog 195 [.slice p ls.length cap] [R] (aF fun v G => (ae.bb ls = 0 ∧ ∃ b, v = .tuple #[.pointer (some ⟨b, 0, none⟩), .int .i64 0] ∧ G = [HC b ls, R]) ∨ (ae.bb ls ≠ 0 ∧ v = .tuple #[.pointer none, .int .i64 (ae.bb ls)] ∧ G = [R])) := by
 refine au [(0, _)] Tryz.func195 rfl Tryz.ntmps195 rfl rfl ?_
 intro w0 F
 refine (Qt)<|(tG) ?_
 intro b1
 refine (Qc)<|(Ic)<|(Q8) ?_
 refine aD rfl (fun h13 => ?_) (fun h13 => ?_)
 ·exact rC TT 8 rfl<|ag (ev rfl rfl) (.inr ⟨by rw [ae.vz (by omega)]; decide, by rw [ae.vz (by omega)], rfl⟩) (sub (.cons ax .nil) bu)
 ·refine (Q5)<|(Ic)<|(HZ) ?_
  refine kL ls.length ls.length (pj) rfl rfl V.Ij V.Np rfl rfl rfl rfl (by omega) (by omega) rfl rfl ?_
  intro b16
  refine oV (cR V.TU V.Xq rfl (cs := [_, _, _, _, _, _, _, _, _, _, _, _, _, _, _, _, _, _, _]) rfl)<|iI rfl (show _ = CA [.slice (some ⟨b16, 0, none⟩) ls.length ls.length] .i64 (ae.bM (ls.take 0)) [.slice none (ae.cK (ls.take 0)).length 0, .int .i64 (ae.bY (ls.take 0))] from by rw [List.take_zero, ae.Gw, ae.yJ, ae.FJ]; rfl) rfl ?_
  intro b18
  refine (Q1)<|(z8)<|(Q3) ?_
  refine iP (Row I3 none (ae.cK (ls.take 0)).length 0 (ae.cK (ls.take 0))) (by rw [List.take_zero, ae.yJ]; exact Row.nil _ _ _) ?_
  refine gN (fun (k : Nat) (po : Option Addr) (co : Nat) => [(1, .pointer (some ⟨b1, 0, none⟩)), (4, .pointer (some ⟨b18, 0, none⟩)), (19, .slice p ls.length cap), (20, .int .i64 (ls.length : Int)), (21, .int .i64 (k : Int))]) (fun (k : Nat) (po : Option Addr) (co : Nat) => ai b18 275 (CA [.slice (some ⟨b16, 0, none⟩) ls.length ls.length] .i64 (ae.bM (ls.take k)) [.slice po (ae.cK (ls.take k)).length co, .int .i64 (ae.bY (ls.take k))]) :: Row I3 po (ae.cK (ls.take k)).length co (ae.cK (ls.take k)) :: Row pj (some ⟨b16, 0, none⟩) ls.length ls.length (List.replicate ls.length (0, 0)) :: ai b1 47 [.slice p ls.length cap] :: R :: F) (fun (k : Nat) (po : Option Addr) (co : Nat) => k ≤ ls.length ∧ ∀ i, i < k → 0 ≤ ls.getD i 0 ∧ ls.getD i 0 ≤ 15) (fun (k : Nat) (po : Option Addr) (co : Nat) => ls.length - k) (i3 (0) (none) (0) ?_ (bP ln) (sub (.cons ax (mf .nil)) ak)) ?_
  ·exact ⟨by omega, fun i hi => by omega⟩
  intro k po co
  rintro ⟨hk, hok⟩
  refine (Qm) ?_
  refine aD rfl (fun h22 => ?_) (fun h22 => ?_)
  ·refine (Qs)<|(Mc)<|(Q1) ?_
   have hk2 : k < ls.length := by omega
   have hg : I3.g ls (k : Int) = ls.getD k 0 := by simp [Ec.g]
   have hg2 : ls.getD k 0 = ls[k] := by simp [hk2]
   have htk : (ls.take k).length = k := by rw [List.length_take]; omega
   have hcl := ae.jq (ls.take k)
   have hcb := ae.nH (ls := ls.take k) (by omega) (I3.g ls (k : Int)).toNat
   have hpl2 := ae.tT (ls.take k)
   refine (Q5) ?_
   refine ke 28 rfl (fun h28 => ?_) (fun h28 => ?_)
   ·exact rO TT 19 rfl<|ag (ev rfl rfl) (.inr ⟨by rw [ae.nX (by omega) hk2 (by omega)]; decide, by rw [ae.nX (by omega) hk2 (by omega)], rfl⟩) (sub (.cons iB .nil) kv)
   ·refine (Q3) ?_
    refine aD rfl (fun h31 => ?_) (fun h31 => ?_)
    ·exact rC TT 13 rfl<|ag (ev rfl rfl) (.inr ⟨by rw [ae.nX (by omega) hk2 (by omega)]; decide, by rw [ae.nX (by omega) hk2 (by omega)], rfl⟩) (sub (.cons iB .nil) kv)
    ·refine rC TT 8 rfl ?_
     refine aD rfl (fun h33 => ?_) (fun h33 => ?_)
     ·refine (Qa) ?_
      refine wN [pz 0 [] [4], pz 0 [] [6], pz 1 [0] [], pz 5 [2] [], pz 15 [3, 1] [], pz 31 [4] [], pz 63 [5] [], pz 1 [0] [], pz 129 [7] [], pz 511 [8, 1] [], pz 1023 [9, 6] []] [⟨fun y => ai b18 275 (CA [.slice (some ⟨b16, 0, none⟩) ls.length ls.length] .i64 (ae.bM (ls.take k)) [.slice po (ae.cK (ls.take k)).length co, .int .i64 (ae.bY (ls.take k))]), none, some 10, [5]⟩, ⟨fun y => Row I3 po (ae.cK (ls.take k)).length co (ae.cK (ls.take k)), none, none, []⟩, ⟨fun y => Row pj (some ⟨b16, 0, none⟩) ls.length ls.length (List.replicate ls.length (0, 0)), none, none, []⟩, ⟨fun y => ai b1 47 [.slice p ls.length cap], none, none, []⟩, ⟨fun y => R, none, none, []⟩, ⟨fun y => ai b18 275 (CA [.slice (some ⟨b16, 0, none⟩) ls.length ls.length] .i64 ((ae.bM (ls.take k)).set (((I3.g ls (k : Int))).toNat) (((ae.bM (ls.take k)).getD (((I3.g ls (k : Int))).toNat) 0) + 1)) [.slice po (ae.cK (ls.take k)).length co, .int .i64 (ae.bY (ls.take k))]), some 10, none, []⟩] F V.mixed ?_
      iterate 2 refine nM ?_
      refine nN ?_
      refine nG V.xm ?_
      refine nV (fun y hA L => ez (((I3.g ls (k : Int))).toNat) (by omega) V.qJ rfl rfl (by omega)) ?_
      refine nR (fun y FF hA => jv (I3.g ls (k : Int)) V.s3 rfl aB (by (simp only [List.length_cons, List.length_nil]; omega)) (by omega) (by omega)) ?_
      refine nV (fun y hA L => ei rfl rfl wI) ?_
      refine nN ?_
      refine nG V.xm ?_
      refine nV (fun y hA L => ez (((I3.g ls (k : Int))).toNat) (by omega) V.qJ rfl rfl (by omega)) ?_
      refine nE (fun y FF hA => de (z6 (I3.g ls (k : Int)) V.s3 rfl rfl (by exact fO) (by (simp only [List.length_cons, List.length_nil]; omega)) (by omega) (by omega)) ⟨rfl, .refl _⟩) ?_
      refine cQ ?_
      intro y hA
      clear hA
      refine bj<|bD _ (.cons (d := 1) rfl (.cons (d := 4) rfl (.cons (d := 5) rfl (.cons (d := 6) rfl (.cons (d := 19) rfl (.cons (d := 20) rfl (.cons (d := 21) rfl (.nil _))))))))<|a7 (M := Row I3 po (ae.cK (ls.take k)).length co (ae.cK (ls.take k)) :: Row pj (some ⟨b16, 0, none⟩) ls.length ls.length (List.replicate ls.length (0, 0)) :: ai b1 47 [.slice p ls.length cap] :: R :: ai b18 275 (CA [.slice (some ⟨b16, 0, none⟩) ls.length ls.length] .i64 ((ae.bM (ls.take k)).set (((I3.g ls (k : Int))).toNat) (((ae.bM (ls.take k)).getD (((I3.g ls (k : Int))).toNat) 0) + 1)) [.slice po (ae.cK (ls.take k)).length co, .int .i64 (ae.bY (ls.take k))]) :: F) (fun _ _ h => h)<|(Qi) ?_
      refine oV (kE (n := 16) 0 V.lZ rfl jK (by (simp only [List.length_set]; omega)) rfl rfl)<|(Q7) ?_
      refine cY (I3) [(k : Int)] V.cH V.z3 rfl rfl rfl rfl rfl rfl ?_
      intro b50
      refine (UJ) ?_
      intro p51 c51
      refine (Q6) ?_
      refine cA (yI (n := 16) 0 V.lZ rfl rfl rfl (by exact Ik) (by (simp only [List.length_set]; omega)) rfl (by exact Nat.le_of_ble_eq_true rfl) rfl)<|(Qc) ?_
      refine oV (kE (n := 16) 1 V.s3 rfl Wq (by (simp only [List.length_set]; omega)) rfl rfl)<|(Q7) ?_
      refine oV (BD rfl rfl)<|(Q6) ?_
      refine cA (yI (n := 16) 1 V.s3 rfl rfl rfl (by exact Ik) (by (simp only [List.length_set]; omega)) rfl (by exact Nat.le_of_ble_eq_true rfl) rfl)<|(AA) ?_
      have hok2 := ae.AF hok (by omega)
      (obtain ⟨e1, e2, e3, e4⟩ := ae.step_pos hk2 (hg.trans hg2) (by omega) (by omega); rw [e1, e2, e3, e4]; exact j3 (k + 1) _ _ ⟨⟨by omega, hok2⟩, by omega⟩ (bP ln) (sub (.cons jF (ao (.cons ax (.cons ax (.cons ax .nil))))) bu))
     ·refine jJ TT 7 rfl (by omega) ?_
      have hok2 := ae.AF hok (by omega)
      (obtain ⟨e1, e2, e3⟩ := ae.D7 hk2 (hg.trans hg2) (by omega); rw [← e1, ← e2, ← e3]; exact j3 (k + 1) _ _ ⟨⟨by omega, hok2⟩, by omega⟩ (bP ln) (sub (mB .nil) ak))
  ·refine (Qs) ?_
   have hkn : k = ls.length := by omega
   subst hkn
   rw [List.take_length] at *
   have hvv := ae.Lj hok (Nat.le_refl _)
   have hcl := ae.jq ls
   have hE0 := ae.K7 (by omega) hvv
   refine wN [pz 0 [] [4], pz 1 [0] [], pz 3 [1] [], pz 7 [2] [], pz 0 [] [4], pz 16 [4] [], pz 48 [5] [], pz 112 [6] [], pz 240 [7] [], pz 511 [3, 8] [], pz 1023 [9] []] [⟨fun y => ai b18 275 (CA [.slice (some ⟨b16, 0, none⟩) ls.length ls.length] .i64 (ae.bM ls) [.slice po (ae.cK ls).length co, .int .i64 (ae.bY ls)]), none, none, [3, 7]⟩, ⟨fun y => Row I3 po (ae.cK ls).length co (ae.cK ls), none, none, []⟩, ⟨fun y => Row pj (some ⟨b16, 0, none⟩) ls.length ls.length (List.replicate ls.length (0, 0)), none, none, []⟩, ⟨fun y => ai b1 47 [.slice p ls.length cap], none, none, []⟩, ⟨fun y => R, none, none, []⟩] F V.mixed<|nM<|nN<|nG V.xm<|nR (fun y FF hA => C9 V.a229 rfl aB (by omega) rfl)<|nM<|nN<|nG V.M4<|nR (fun y FF hA => kE (n := 16) 0 V.lZ rfl aB (by omega) rfl rfl)<|nV (fun y hA L => ko (ty' := 0) Tryz.underlying47 rfl)<|nE (fun y FF hA => aV (Post := []) (K8 (ae.bM ls) _ (ae.jq _) (ae.nH (by omega))) V.XE rfl .nil (fun v G h => by rcases h with ⟨rfl, rfl⟩; exact ⟨rfl, .refl _⟩))<|nV (fun y hA L => lG rfl)<|(Qb) ?_
   intro y hA
   clear hA
   refine bj<|bD _ (.cons (d := 1) rfl (.cons (d := 4) rfl (.cons (d := 74) rfl (.nil _))))<|a7 (M := ai b18 275 (CA [.slice (some ⟨b16, 0, none⟩) ls.length ls.length] .i64 (ae.bM ls) [.slice po (ae.cK ls).length co, .int .i64 (ae.bY ls)]) :: Row I3 po (ae.cK ls).length co (ae.cK ls) :: Row pj (some ⟨b16, 0, none⟩) ls.length ls.length (List.replicate ls.length (0, 0)) :: ai b1 47 [.slice p ls.length cap] :: R :: F) (fun _ _ h => h) ?_
   refine te rfl (fun h74 => ?_) (fun h74 => ?_)
   ·refine (Qa) ?_
    have hE : ae.bb ls = 4 := by rw [hE0, if_neg (by simpa using h74)]
    refine (Qs) ?_
    exact ag (ev rfl rfl) (.inr ⟨by rw [hE]; decide, by rw [hE], rfl⟩) (sub (.cons iB .nil) kv)
   ·refine (Q4) ?_
    have hE : ae.bb ls = 0 := by rw [hE0, if_pos (by simpa using h74)]
    have hV := (ae.kP hE).1
    have hW := (ae.kP hE).2
    have hpl := ae.yr hV
    have hpn := ae.tT ls
    refine Rz (A := [ai b1 47 [.slice p ls.length cap], R]) (.cons dk (.cons dk .nil))<|(Q5) ?_
    refine oV (kE (n := 16) 0 V.lZ rfl dC (by omega) rfl rfl)<|oV (BV (fs := []) (cs := [_]) rfl rfl)<|aj (JE po (ae.cK ls).length co 217 [] [.pointer (some ⟨b1, 0, none⟩)] (qb [ai b1 47 [.slice p ls.length cap], R]) (ae.key ls) (fun x => 0 ≤ x ∧ x < ls.length) V.XC (fun x y hx hy => (M9 p ls.length cap ls R hR b1 x y hx hy).star) (ae.cK ls) (by omega) (ae.Ke ls)) V.Xj  rfl (.cons bo (ao .nil)) rfl ?_
    rintro _ _ ⟨rfl, l2, hR2, hS2, rfl⟩
    obtain rfl := ae.GC hvv hR2 hS2
    refine (Qg) ?_
    refine G2 ax ?_
    rw [hpl]
    refine (ox) ?_
    refine oV (kE (n := 16) 0 V.lZ rfl gq (by omega) rfl rfl)<|(Q3) ?_
    rw [← ae.yV]
    refine cE (fun (k : Nat) => [(1, .pointer (some ⟨b1, 0, none⟩)), (4, .pointer (some ⟨b18, 0, none⟩)), (7, .int .i64 (ae.w9 ls k)), (8, .int .i64 (ae.mm ls k)), (84, .slice po (ae.ord ls).length co), (85, .int .i64 ((ae.ord ls).length : Int)), (86, .int .i64 (k : Int))]) (fun (k : Nat) => ai b18 275 (CA [.slice (some ⟨b16, 0, none⟩) ls.length ls.length] .i64 (ae.bM ls) [.slice po (ae.ord ls).length co, .int .i64 (ae.bY ls)]) :: Row I3 po (ae.ord ls).length co (ae.ord ls) :: Row pj (some ⟨b16, 0, none⟩) ls.length ls.length (ae.gS ls k) :: ai b1 47 [.slice p ls.length cap] :: R :: F) (fun (k : Nat) => k ≤ (ae.ord ls).length) (fun (k : Nat) => (ae.ord ls).length - k) (i1 (0) ?_ (iE (bP ln)) (sub (.cons dk (.cons bo (.cons bo (aO .nil)))) ak)) ?_
    ·exact Nat.zero_le _
    intro k
    rintro hk
    refine (Qm) ?_
    refine aD rfl (fun h87 => ?_) (fun h87 => ?_)
    ·refine (Qf) ?_
     have hk2 : k < (ae.ord ls).length := by omega
     obtain ⟨s, hs⟩ := ae.WE hW hk2
     have hgs : I3.g (ae.ord ls) (k : Int) = (s : Int) := by rw [← hs.sym]; simp [Ec.g]
     have hsl := hs.lt
     refine (Qo) ?_
     refine oV (xI V.cH (own dC))<|oV (xL V.s3 (own dC))<|(Q8) ?_
     rw [hgs]
     have hls : I3.g ls (s : Int) = (ae.lenOf ls s : Int) := by rw [← hs.len]; simp [Ec.g]
     have hs1 := hs.top
     have hs2 := hs.nn
     have mK := hs.ge
     have hs4 := hs.w0
     have hs5 : ae.eZ ls s < 32768 := by have := ae.pE hs.top; have := hs.w1; omega
     refine (Q9) ?_
     refine oV (az V.lZ rfl gq rfl)<|(Q7)<|(Mc)<|(pS) ?_
     refine oV (gA (r := ae.eZ ls s) rfl rfl (by omega) (Fp hs hls))<|(Q3) ?_
     refine oV (az V.lZ rfl gq rfl)<|(Q7)<|(Mc)<|(Q8) ?_
     rw [hls]
     refine (Q5) ?_
     refine oV (az V.Xh rfl aB rfl)<|(Qg) ?_
     refine oV (cR V.T7 V.Np rfl (cs := [_, _]) rfl)<|oV (xI V.Ij (own dJ))<|cA (Gr (c := (pj)) ((ae.eZ ls s, (ae.lenOf ls s : Int))) V.Xu rfl rfl (by exact wD) (by omega) (by omega) rfl)<|iD TT 13 rfl (by omega) ?_
     have en : ae.eZ ls s + 1 = ae.w9 ls (k + 1) := by simp only [ae.w9]; rw [hs.sym]; simp
     have el : (ae.lenOf ls s : Int) = ae.mm ls (k + 1) := by simp only [ae.mm]; rw [hs.sym]; simp
     rw [Int.toNat_natCast, ← ae.yY hk2 hs, en, el]
     refine j1 (k + 1) ?_ (iE (bP ln)) (sub (mB .nil) ak)
     exact ⟨by omega, by omega⟩
    ·exact rC TT 13 rfl<|ag (ev rfl rfl) (.inl ⟨hE, b18, rfl, rfl⟩) ((aM (ao (.cons ax (.cons dj .nil))) ak (fun w0 h hh => nI (ae.Bq hV (by omega)) hh)).trans (sub (ao (.cons ax .nil)) bu))
end Go.Proofs.YtmaiakpjgomnpaaGreat
namespace Go.Proofs.YtmaiakpjgomnpaaGreat
open Go.Sl 
theorem np (p : Option Addr) (cap : Nat) (B : List Int) (R : ad) (hR : ∀ w0 h, R w0 h → aE U5 p B.length B w0 h) (hl : B.length < 500000000) : aA Tryz.prog 91 [.slice p B.length cap] [R] (aF fun v G => ∃ q c, v = .slice q B.length c ∧ G = [Row U5 q B.length c B, R]) := by
 refine au [(0, _)] Tryz.func91 rfl Tryz.ntmps91 rfl rfl ?_
 intro w0 F
 refine gu (fun w hi => OB (List.mem_cons_self ..) hR hi) (fun hp => ?_)
 refine (QV) ?_
 refine oV (FH Tryz.underlying22 rfl rfl)<|(Q6) ?_
 refine te rfl (fun h4 => ?_) (fun h4 => ?_)
 ·refine (Qs) ?_
  obtain rfl : p = none := by cases p with | none => rfl | some _ => simp at h4
  obtain rfl : B = [] := hp rfl
  exact ag (av rfl) ⟨none, 0, rfl, rfl⟩ ((da (fun w0 => Row.nil _ _ _)).trans (sub (aO .nil) ak))
 ·refine (Q5) ?_
  refine cY (U5) [] V.bE V.z5 rfl rfl rfl rfl rfl rfl ?_
  intro b5
  refine (Q7) ?_
  refine ew (c := (U5)) V.bE V.z5 rfl rfl rfl rfl dj (by exact bK hR dC) (by omega) rfl ?_
  intro p7 c7
  refine (Q8) ?_
  exact ag (av rfl) ⟨p7, c7, by rw [Nat.zero_add], by rw [Nat.zero_add, List.nil_append]⟩ (sub (aO .nil) ak)
theorem MI (b : Nat) (B : List Int) (at_ : Nat) (out : List Int) (free : Int) (hl : B.length < 500000000) (ha : at_ ≤ 8 * B.length) : aA Tryz.prog 128 [.pointer (some ⟨b, 0, none⟩)] [LW b B at_ out free] (aF fun v G => v = .int .i64 (8 * (B.length : Int) - (at_ : Int)) ∧ G = [LW b B at_ out free]) := by
 refine au [(0, _)] Tryz.func128 rfl Tryz.ntmps128 rfl rfl ?_
 intro w0 F
 refine (qa) ?_
 rintro ⟨p1, c1, p2, c2⟩ _
 dsimp only
 refine (QU) ?_
 refine wN [pz 0 [] [0], pz 1 [0] [], pz 3 [1] [], pz 7 [2] [], pz 15 [3] [], pz 31 [4] [], pz 0 [] [0], pz 64 [6] [], pz 192 [7] [], pz 448 [8] [], pz 1023 [5, 9] [], pz 2047 [10] []] [⟨fun y => ai b 236 [.slice p1 B.length c1, .slice p2 out.length c2, .int .i64 (at_ : Int), .int .i64 free], none, none, [3, 9]⟩, ⟨fun y => Row U5 p1 B.length c1 B, none, none, []⟩, ⟨fun y => Row U5 p2 out.length c2 out, none, none, []⟩] F V.mixed ?_
 refine nM ?_
 refine nN ?_
 refine nG V.DF ?_
 refine (oW) ?_
 refine (xV) ?_
 refine (Yq) ?_
 refine nM ?_
 refine nN ?_
 refine nG V.xd ?_
 refine (Qy) ?_
 refine (uV) ?_
 refine nA ?_
 refine (Qb) ?_
 intro y hA
 clear hA
 refine bj ?_
 refine (Jc) ?_
 refine (Wh) ?_
 refine (Qa) ?_
 exact ag (av rfl) ⟨rfl, rfl⟩ (aM (eU .nil) ak (fun w0 h hh => nW hh))
theorem Tx (b : Nat) (B : List Int) (at_ : Nat) (out : List Int) (free : Int) (n : Int) (hl : B.length < 500000000) (ha : at_ ≤ 8 * B.length) (hn : 0 ≤ n ∧ n ≤ 24 ∧ n ≤ 8 * (B.length : Int) - at_) : aA Tryz.prog 92 [.pointer (some ⟨b, 0, none⟩), .int .i64 n] [LW b B at_ out free] (aF fun v G => v = .tuple #[] ∧ G = [LW b B at_ out free]) := by
 refine (Px) ?_
 intro w0 F
 refine rT TT 3 rfl ?_
 refine (QE) ?_
 refine (Q6) ?_
 refine (Q0) ?_
 refine (Qr) ?_
 refine (Q8) ?_
 refine (Q0) ?_
 refine (LQ) ?_
 rintro _ _ ⟨rfl, rfl⟩
 refine (Q0) ?_
 refine (Qr) ?_
 refine (Q3) ?_
 exact gn eH ⟨rfl, rfl⟩ (sub (ao .nil) ak)
theorem NH (b : Nat) (B : List Int) (at_ : Nat) (out : List Int) (free : Int) (n : Int) (hl : B.length < 500000000) (ha : at_ ≤ 8 * B.length) (hn : 0 ≤ n ∧ n ≤ 24 ∧ 8 * (B.length : Int) - at_ < n) : aA Tryz.prog 92 [.pointer (some ⟨b, 0, none⟩), .int .i64 n] [LW b B at_ out free] (re fun ch G => ch = jo 194 (.agg #[]) ∧ G = [LW b B at_ out free]) := by
 refine (Px) ?_
 intro w0 F
 refine rT TT 3 rfl ?_
 refine (QE) ?_
 refine (Q6) ?_
 refine (Q0) ?_
 refine (Qr) ?_
 refine (Q8) ?_
 refine (Q0) ?_
 refine (LQ) ?_
 rintro _ _ ⟨rfl, rfl⟩
 refine (Q0) ?_
 refine (Qu) ?_
 refine (Q3) ?_
 refine oV (cR V.SP V.z194 rfl (cs := []) rfl) ?_
 refine oV (tX V.BU rfl) ?_
 refine ud rfl ?_
 skip
 exact wi (G := [LW b B at_ out free]) ⟨rfl, rfl⟩ (sub (ao .nil) ak)
theorem RI (b : Nat) (B : List Int) (at_ : Nat) (out : List Int) (free : Int) (hl : B.length < 500000000) (hB : af.an B) (ha : at_ < 8 * B.length) : aA Tryz.prog 204 [.pointer (some ⟨b, 0, none⟩)] [LW b B at_ out free] (aF fun v G => v = .int .i64 (af.hJ B at_) ∧ G = [LW b B (at_ + 1) out free]) := by
 refine au [(0, _)] Tryz.func204 rfl Tryz.ntmps204 rfl rfl ?_
 intro w0 F
 refine (qa) ?_
 rintro ⟨p1, c1, p2, c2⟩ _
 dsimp only
 have hq : U5.g B ((at_ : Int) / 8) = B.getD (at_ / 8) 0 := gE (at_ / 8) (by omega)
 have hb := hB.get (at_ / 8)
 have hd := af.xA hb.1 hb.2 (at_ % 8)
 have hb2 := af.lN B at_
 refine (QU) ?_
 refine wN [pz 0 [] [0], pz 1 [0] [], pz 3 [1] [], pz 7 [2] [], pz 15 [3] [], pz 0 [] [0], pz 32 [5] [], pz 96 [6] [], pz 224 [7] [], pz 480 [8] [], pz 992 [9] [], pz 2047 [4, 10] [], pz 4095 [11] [], pz 0 [] [0], pz 8192 [13] [], pz 24576 [14] [], pz 57344 [15] [], pz 122880 [16] [], pz 253952 [17] [], pz 524287 [12, 18] [], pz 1048575 [19] []] [⟨fun y => ai b 236 [.slice p1 B.length c1, .slice p2 out.length c2, .int .i64 (at_ : Int), .int .i64 free], none, none, [4, 9, 17]⟩, ⟨fun y => Row U5 p1 B.length c1 B, none, none, [11, 12]⟩, ⟨fun y => Row U5 p2 out.length c2 out, none, none, []⟩] F V.mixed ?_
 refine nM ?_
 refine nN ?_
 refine nG V.yN ?_
 refine nG V.DF ?_
 refine (oW) ?_
 refine nM ?_
 refine nN ?_
 refine nG V.yN ?_
 refine nG V.xd ?_
 refine (Qy) ?_
 refine (Uz) ?_
 refine (CF) ?_
 refine (Jf) ?_
 refine nM ?_
 refine nN ?_
 refine nG V.yN ?_
 refine nG V.xd ?_
 refine (Qy) ?_
 refine (O0) ?_
 refine nV (fun y hA L => dN (r := B.getD (at_ / 8) 0 / 2 ^ (at_ % 8)) rfl rfl (by omega) (by rw [hq]; exact af.RV hb.1 (by omega) (by omega))) ?_
 refine nA ?_
 refine (Qb) ?_
 intro y hA
 clear hA
 refine bj<|bD _ (.cons (d := 0) rfl (.cons (d := 3) rfl (.nil _)))<|(Wh)<|(Qi)<|(Qk)<|(ri)<|(pY)<|(Q3) ?_
 refine oV (jk (r := af.hJ B at_) rfl rfl (af.yT hd.1 hd.2))<|(QN)<|(Q8) ?_
 rw [show (at_ : Int) + 1 = ((at_ + 1 : Nat) : Int) from by omega]
 exact ag (av rfl) ⟨rfl, rfl⟩ (aM (eU .nil) ak (fun w0 h hh => nW hh))
theorem eQ (b : Nat) (B : List Int) (at_ : Nat) (out : List Int) (free : Int) (n : Nat) (hl : B.length < 500000000) (hB : af.an B) (hn : n ≤ 24) (ha : at_ + n ≤ 8 * B.length) : aA Tryz.prog 183 [.pointer (some ⟨b, 0, none⟩), .int .i64 (n : Int)] [LW b B at_ out free] (aF fun v G => v = .int .i64 (af.aJ B at_ n) ∧ G = [LW b B (at_ + n) out free]) := by
 refine au [(0, _), (1, _)] Tryz.func183 rfl Tryz.ntmps183 rfl rfl ?_
 intro w0 F
 refine rT TT 11 rfl<|aj (Tx b B at_ out free n hl (by omega) (by omega)) V.NM  rfl (ao .nil) rfl ?_
 rintro _ _ ⟨rfl, rfl⟩
 refine (QM) ?_
 refine cE (fun (k : Nat) => [(0, .pointer (some ⟨b, 0, none⟩)), (5, .int .i64 (af.aJ B at_ k)), (12, .int .i64 (n : Int)), (13, .int .i64 (k : Int))]) (fun (k : Nat) => LW b B (at_ + k) out free :: F) (fun (k : Nat) => k ≤ n) (fun (k : Nat) => n - k) (i1 (0) ?_ (eg ln) (sub (ao .nil) ak)) ?_
 ·exact Nat.zero_le _
 intro k
 rintro hk
 refine (Qm) ?_
 refine aD rfl (fun h14 => ?_) (fun h14 => ?_)
 ·refine (QC) ?_
  have hb := af.lN B (at_ + k)
  have hnb := af.bF B at_ k
  refine (Q4) ?_
  refine aj (RI b B (at_ + k) out free hl hB (by omega)) V.XB  rfl (ao .nil) rfl ?_
  rintro _ _ ⟨rfl, rfl⟩
  refine (Q7) ?_
  refine oV (gA (r := af.hJ B (at_ + k) * 2 ^ k) rfl rfl (by omega) (af.Sp hb (by omega) rfl))<|oV (mT (r := af.aJ B at_ k + af.hJ B (at_ + k) * 2 ^ k) rfl rfl (af.Uc hnb.1 hnb.2 hb (by omega)))<|(QG) ?_
  refine j1 (k + 1) ?_ (eg ln) (sub (ao .nil) ak)
  exact ⟨by omega, by omega⟩
 ·refine rC TT 12 rfl ?_
  obtain rfl : k = n := by omega
  exact ag (av rfl) ⟨rfl, rfl⟩ (sub (ao .nil) ak)
theorem fx (b : Nat) (B : List Int) (at_ : Nat) (out : List Int) (free : Int) (n : Nat) (hl : B.length < 500000000) (hB : af.an B) (hn : n ≤ 24) (ha : at_ ≤ 8 * B.length) (hx : 8 * B.length < at_ + n) : aA Tryz.prog 183 [.pointer (some ⟨b, 0, none⟩), .int .i64 (n : Int)] [LW b B at_ out free] (re fun ch G => ch = jo 194 (.agg #[]) ∧ G = [LW b B at_ out free]) := by
 refine au [(0, _), (1, _)] Tryz.func183 rfl Tryz.ntmps183 rfl rfl ?_
 intro w0 F
 refine rT TT 11 rfl<|dg (NH b B at_ out free n hl ha (by omega)) V.NM rfl (ao .nil) ?_
 rintro _ _ ⟨rfl, rfl⟩
 refine (cU ?_)
 exact wi (G := [LW b B at_ out free]) ⟨rfl, rfl⟩ (sub (ao .nil) ak)
theorem M3 (b : Nat) (B : List Int) (at_ : Nat) (out : List Int) (free : Int) (hl : B.length < 500000000) (ha : at_ ≤ 8 * B.length) : aA Tryz.prog 170 [.pointer (some ⟨b, 0, none⟩)] [LW b B at_ out free] (aF fun v G => v = .int .i64 (8 * (B.length : Int) - (at_ : Int)) ∧ G = [LW b B at_ out free]) := by
 refine au [(0, _)] Tryz.func170 rfl Tryz.ntmps170 rfl rfl ?_
 intro w0 F
 refine (QV)<|(Dg)<|(Qe)<|(LQ) ?_
 rintro _ _ ⟨rfl, rfl⟩
 refine (Q8) ?_
 exact ag (av rfl) ⟨rfl, rfl⟩ (sub (ao .nil) ak)
theorem Ge (p : Option Addr) (cap : Nat) (B : List Int) (R : ad) (hR : ∀ w0 h, R w0 h → aE U5 p B.length B w0 h) (hl : B.length < 500000000) : aA Tryz.prog 166 [.slice p B.length cap] [R] (aF fun v G => ∃ b, v = .pointer (some ⟨b, 0, none⟩) ∧ G = [LW b B 0 [] 0, R]) := by
 refine au [(0, _)] Tryz.func166 rfl Tryz.ntmps166 rfl rfl ?_
 intro w0 F
 refine (QH) ?_
 refine aj (np p cap B R hR hl) V.zV  rfl (ao .nil) rfl ?_
 rintro _ _ ⟨q, c, rfl, rfl⟩
 refine (VJ) ?_
 refine oV (cR V.Ue V.z236 rfl (cs := [.slice q B.length c, .slice none 0 0, .int .i64 0, .int .i64 0]) rfl)<|(VX) ?_
 intro b7
 refine (Q8) ?_
 exact ag (av rfl) ⟨b7, rfl, rfl⟩ ((da (A := Row U5 none 0 0 []) (fun w0 => Row.nil _ _ _)).trans ((aM (.cons ax (.cons ax (ao .nil))) ak (fun w0 h hh => nW (p1 := q) (c1 := c) (p2 := none) (c2 := 0) (B := B) (out := []) (at_ := 0) (free := 0) hh)).trans (sub (aO .nil) ak)))
end Go.Proofs.YtmaiakpjgomnpaaGreat
namespace Go.Proofs.YtmaiakpjgomnpaaGreat
open Go.Sl 
end Go.Proofs.YtmaiakpjgomnpaaGreat
namespace Go.Proofs.YtmaiakpjgomnpaaGreat
open Go.Sl 
attribute [local irreducible] ae.ord ae.gS ae.cK ae.bM ae.bY ae.words ae.eZ ae.lenOf ae.bb ae.fJ
attribute [local irreducible] ae.XQ ae.sy
end Go.Proofs.YtmaiakpjgomnpaaGreat
namespace Go.Proofs.YtmaiakpjgomnpaaGreat
open Go.Sl 
attribute [local irreducible] ae.ord ae.gS ae.cK ae.bM ae.bY ae.words ae.eZ ae.lenOf ae.bb ae.fJ ae.wd ae.kX ae.jI ae.nD ae.cls ae.off ae.tk
set_option maxHeartbeats 2000000 in
theorem Oz (b : Nat) (ls : List Int) (b2 : Nat) (B : List Int) (at_ : Nat) (out : List Int) (free : Int) (hE : ae.bb ls = 0) (hl : B.length < 500000000) (hB : af.an B) (ha : at_ ≤ 8 * B.length) : aA Tryz.prog 201 [.pointer (some ⟨b, 0, none⟩), .pointer (some ⟨b2, 0, none⟩)] [HC b ls, LW b2 B at_ out free] (sG (fun v G => ∃ n s, ae.tk ls B at_ = .vw n s ∧ v = .int .i64 s ∧ G = [HC b ls, LW b2 B (at_ + n) out free]) (fun ch G => (∃ n, ae.tk ls B at_ = .short n ∧ ch = jo 194 (.agg #[]) ∧ G = [HC b ls, LW b2 B (at_ + n) out free]) ∨ (∃ n, ae.tk ls B at_ = .none_ n ∧ ch = jo 237 (.agg #[]) ∧ G = [HC b ls, LW b2 B (at_ + n) out free]))) := by
 refine au [(0, _), (1, _)] Tryz.func201 rfl Tryz.ntmps201 rfl rfl ?_
 intro w0 F
 have hV := (ae.kP hE).1
 have hW := (ae.kP hE).2
 have hcl := ae.jq ls
 have hCb := ae.nH hV.1
 have hm15 := ae.P7 hV
 have hme := ae.NI ls
 refine (qa) ?_
 rintro ⟨p1, c1, p2, c2⟩ _
 dsimp only
 rw [hme]
 refine rT TT 19 rfl ?_
 rw [show ((7 : Nat), Value.int .i64 0) = (7, .int .i64 (ae.off ls (0 + 1) : Int)) from by unfold ae.off; rfl]
 refine cE (fun (m : Nat) => [(0, .pointer (some ⟨b, 0, none⟩)), (1, .pointer (some ⟨b2, 0, none⟩)), (5, .int .i64 (af.acc B at_ m)), (6, .int .i64 (ae.base ls m + ae.cnt ls m)), (7, .int .i64 (ae.off ls (m + 1) : Int)), (8, .int .i64 ((m : Int) + 1))]) (fun (m : Nat) => ai b 275 (CA [.slice p1 ls.length c1] .i64 (ae.bM ls) [.slice p2 (ae.ord ls).length c2, .int .i64 (ae.kl ls : Int)]) :: Row pj p1 ls.length c1 (ae.words ls) :: Row I3 p2 (ae.ord ls).length c2 (ae.ord ls) :: LW b2 B (at_ + m) out free :: F) (fun (m : Nat) => ae.Tk ls B at_ m) (fun (m : Nat) => ae.kl ls - m) (i1 (0) ?_ (jx (bP ln)) (sub (mf .nil) ak)) ?_
 ·exact ae.GS ha
 intro m
 rintro ht
 have htl := ht.le
 refine rL TT 7 rfl<|oV (kE (n := 16) 1 V.s3 rfl aB (by omega) rfl rfl)<|(Qg) ?_
 refine aD rfl (fun h14 => ?_) (fun h14 => ?_)
 ·have hcn := ae.MK (ls := ls) (m := m) (by omega)
  have hbf := ae.y9 hW (n := m + 1) (by omega)
  have hbn := ae.qu ls (m + 1)
  have hc1 := ae.gQ ls (m + 1)
  have hof := ae.EE hV (m := m) (by omega)
  have hac := af.o5 B at_ (m + 1)
  have hac0 := af.o5 B at_ m
  have hp15 := ae.pE (show m + 1 ≤ 15 by omega)
  have hp14 := ae.pE (show m ≤ 15 by omega)
  have hb := af.lN B (at_ + m)
  have hnn := ht.nn
  refine (Q5) ?_
  rcases (Nat.lt_or_ge (at_ + m) (8 * B.length)) with hx | hx
  ·refine (Q4)<|(Vz)<|(Q7) ?_
   refine aj (eQ b2 B (at_ + m) out free 1 hl hB (by omega) (by omega)) V.ef  rfl (.cons dk .nil) rfl ?_
   rintro _ _ ⟨rfl, rfl⟩
   rw [af.xw]
   refine oV (mT (r := af.acc B at_ (m + 1)) rfl rfl (af.D1 hac0.1 (by omega) hb))<|(Q1) ?_
   refine oV (gA (r := ae.base ls (m + 1)) rfl rfl (by decide) (Fx hW (by omega)))<|iD TT 13 rfl (by omega)<|(Ot)<|(PU)<|(Qg) ?_
   refine aD rfl (fun h33 => ?_) (fun h33 => ?_)
   ·refine (Qa) ?_
    have hlt : af.acc B at_ (m + 1) - ae.base ls (m + 1) < ae.cnt ls (m + 1) := by rw [← hcn]; exact h33
    have hat := ae.Oy (by omega) hnn hlt
    have hol : (ae.ord ls).length ≤ 320 := by rw [ae.uw]; exact ae.EE hV (m := 15) (by omega)
    refine (Q5) ?_
    refine oV (kE (n := 16) 0 V.lZ rfl dC (by omega) rfl rfl)<|(yj) ?_
    refine oV (xI V.cH (own gq))<|oV (xL V.s3 (own gq))<|(Qe) ?_
    rw [← hme]
    exact PN (G := [HC b ls, LW b2 B (at_ + (m + 1)) out free]) (av rfl) ⟨m + 1, _, ht.vw (by omega) hx hlt, by rw [← gE (c := I3) (e := (ae.off ls (m + 1) : Int) + af.acc B at_ (m + 1) - ae.base ls (m + 1)) _ (by omega)], rfl⟩ ((aM (.cons ax (.cons ax (.cons ax .nil))) ak (fun w0 h hh => nI rfl hh)).trans (sub (aO .nil) ak))
   ·refine (kB)<|(Ot)<|(PU)<|(Ad)<|(Ot)<|(PU)<|(Ad) ?_
    rw [hcn, ← ae.qB ls (m + 1), show (m : Int) + 1 = ((m + 1 : Nat) : Int) from by omega]
    refine j1 (m + 1) ?_ (jx (bP ln)) (sub (.cons ax (.cons ax (.cons ax (ao .nil)))) ak)
    exact ⟨ht.WU (by omega) hx (by rw [← hcn]; assumption), by omega⟩
  ·refine (Q4)<|(Vz)<|(Q7) ?_
   refine dg (fx b2 B (at_ + m) out free 1 hl hB (by omega) ht.room (by omega)) V.ef rfl (.cons dk .nil) ?_
   rintro _ _ ⟨rfl, rfl⟩
   refine (cU (eE (cU (cU (eE (cU ?_))))))
   rw [← hme]
   exact DT (G := [HC b ls, LW b2 B (at_ + m) out free]) (.inl ⟨m, ht.short (by omega) (by omega), rfl, rfl⟩) ((aM (.cons ax (.cons ax (.cons ax .nil))) ak (fun w0 h hh => nI rfl hh)).trans (sub (aO .nil) ak))
 ·refine (Qi) ?_
  refine oV (cR V.T5 V.Ry rfl (cs := []) rfl)<|oV (tX V.Fq rfl)<|ud rfl ?_
  skip
  rw [← hme]
  exact DT (G := [HC b ls, LW b2 B (at_ + m) out free]) (.inr ⟨m, ht.none (by omega), rfl, rfl⟩) ((aM (eU .nil) ak (fun w0 h hh => nI rfl hh)).trans (sub (aO .nil) ak))
end Go.Proofs.YtmaiakpjgomnpaaGreat
namespace Go.Proofs.YtmaiakpjgomnpaaGreat
open Go.Sl 
theorem DQ (p : Option Addr) (cap : Nat) (ls : List Int) (R : ad) (hR : ∀ w0 h, R w0 h → aE I3 p ls.length ls w0 h) (hE : ae.bb ls = 0) : aA Tryz.prog 195 [.slice p ls.length cap] [R] (aF fun v G => ∃ b, v = .tuple #[.pointer (some ⟨b, 0, none⟩), .int .i64 0] ∧ G = [HC b ls, R]) := by
 refine (IV p cap ls R hR).mono ?_
 rintro e G ⟨v, rfl, h⟩
 rcases h with ⟨_, b, h1, h2⟩ | ⟨h, _⟩
 ·exact ⟨v, rfl, b, h1, h2⟩
 ·exact absurd hE h
theorem Gt (p : Option Addr) (cap : Nat) (ls : List Int) (R : ad) (hR : ∀ w0 h, R w0 h → aE I3 p ls.length ls w0 h) (hE : ¬ ae.bb ls = 0) : aA Tryz.prog 195 [.slice p ls.length cap] [R] (aF fun v G => v = .tuple #[.pointer none, .int .i64 (ae.bb ls)] ∧ G = [R]) := by
 refine (IV p cap ls R hR).mono ?_
 rintro e G ⟨v, rfl, h⟩
 rcases h with ⟨h, _⟩ | ⟨_, h1, h2⟩
 ·exact absurd h hE
 ·exact ⟨v, rfl, h1, h2⟩
end Go.Proofs.YtmaiakpjgomnpaaGreat
namespace Go.Proofs.YtmaiakpjgomnpaaGreat
open Go.Sl 
theorem m8 (e : Int) : aA Tryz.prog 197 [.bool true, .int .i64 e] [] (aF fun v G => v = .tuple #[] ∧ G = []) := by
 refine au [(0, _), (1, _)] Tryz.func197 rfl Tryz.ntmps197 rfl rfl ?_
 intro w0 F
 refine (QH) ?_
 exact gn eH ⟨rfl, rfl⟩ (sub .nil ak)
theorem kI (e : Int) : aA Tryz.prog 197 [.bool false, .int .i64 e] [] (re fun ch G => ch = jo 27 (.int .i64 e) ∧ G = []) := by
 refine au [(0, _), (1, _)] Tryz.func197 rfl Tryz.ntmps197 rfl rfl ?_
 intro w0 F
 refine (QV) ?_
 refine oV (tX V.C0 rfl)<|ud rfl ?_
 skip
 exact wi (G := []) ⟨rfl, rfl⟩ (sub .nil ak)
theorem Sc (b bl : Nat) (sz mo : Int) (li di : Value) (s : ab.St) (yb : Int) (hy : 0 ≤ yb ∧ yb < 256) (hm : mo < 1000000000) : aA Tryz.prog 179 [.pointer (some ⟨b, 0, none⟩), .int .u8 yb] [MS b bl sz mo li di s] (gB (ab.dP mo s yb) (fun s2 v G => v = .tuple #[] ∧ G = [MS b bl sz mo li di s2]) [MX b bl sz mo]) := by
 refine au [(0, _), (1, _)] Tryz.func179 rfl Tryz.ntmps179 rfl rfl ?_
 intro w0 F
 refine (qa) ?_
 rintro ⟨po, co⟩ _
 dsimp only
 rcases (Classical.em ((s.out.length : Int) < mo)) with hx | hx
 ·refine rT TT 1 rfl ?_
  refine wN [pz 0 [] [0], pz 1 [0] [], pz 3 [1] [], pz 7 [2] [], pz 15 [3] [], pz 0 [] [0], pz 32 [5] [], pz 96 [6] [], pz 224 [7] [], pz 511 [4, 8] [], pz 1023 [9] []] [⟨fun y => ai b 223 [.pointer (some ⟨bl, 0, none⟩), .int .i64 sz, .int .i64 mo, .slice po s.out.length co, .bool s.ended, .int .i64 0, .int .i64 s.kind, .int .i64 (s.left : Int), .bool s.last, li, di, .int .i64 (s.aw : Int), .int .i64 (s.bA : Int)], none, none, [3, 8]⟩, ⟨fun y => Row U5 po s.out.length co s.out, none, none, []⟩] F V.mixed ?_
  refine nM ?_
  refine nN ?_
  refine nG V.js ?_
  refine (oW) ?_
  refine (xV) ?_
  refine nM ?_
  refine nN ?_
  refine nG V.Ev ?_
  refine (Qy) ?_
  refine nV (fun y hA L => c9 (dR rfl rfl) hx) ?_
  refine nE (fun y FF hA => aV (Post := []) (m8 6) V.kO rfl .nil (fun v G h => by rcases h with ⟨rfl, rfl⟩; exact ⟨rfl, .refl _⟩)) ?_
  refine (Qb) ?_
  intro y hA
  clear hA
  refine bj<|bD _ (.cons (d := 0) rfl (.cons (d := 1) rfl (.nil _)))<|a7 (M := ai b 223 [.pointer (some ⟨bl, 0, none⟩), .int .i64 sz, .int .i64 mo, .slice po s.out.length co, .bool s.ended, .int .i64 0, .int .i64 s.kind, .int .i64 (s.left : Int), .bool s.last, li, di, .int .i64 (s.aw : Int), .int .i64 (s.bA : Int)] :: Row U5 po s.out.length co s.out :: F) (fun _ _ h => h)<|(Qf)<|(vk)<|(Q7) ?_
  refine cY (U5) [yb] V.bE V.z5 rfl rfl rfl rfl rfl rfl ?_
  intro rb
  refine (Rn) ?_
  intro p22 c22
  refine (Q6)<|(Uq) ?_
  exact c4<|gr (x := { s with out := s.out ++ [yb] }) (by unfold ab.dP; rw [if_pos hx]) eH ⟨rfl, rfl⟩ ((aM (.cons bo (ao .nil)) bu (fun w0 h hh => cT (s := { s with out := s.out ++ [yb] }) (by simp) hh)))
 ·refine rT TT 1 rfl ?_
  refine wN [pz 0 [] [0], pz 1 [0] [], pz 3 [1] [], pz 7 [2] [], pz 15 [3] [], pz 0 [] [0], pz 32 [5] [], pz 96 [6] [], pz 224 [7] [], pz 511 [4, 8] [], pz 1023 [9] []] [⟨fun y => ai b 223 [.pointer (some ⟨bl, 0, none⟩), .int .i64 sz, .int .i64 mo, .slice po s.out.length co, .bool s.ended, .int .i64 0, .int .i64 s.kind, .int .i64 (s.left : Int), .bool s.last, li, di, .int .i64 (s.aw : Int), .int .i64 (s.bA : Int)], none, none, [3, 8, 10]⟩, ⟨fun y => Row U5 po s.out.length co s.out, none, none, []⟩] F V.mixed ?_
  refine nM ?_
  refine nN ?_
  refine nG V.js ?_
  refine (oW) ?_
  refine (xV) ?_
  refine nM ?_
  refine nN ?_
  refine nG V.Ev ?_
  refine (Qy) ?_
  refine nV (fun y hA L => bS (dR rfl rfl) hx) ?_
  refine aU (undef) _ _ (fun y => rfl) rfl (fun y => rfl) (fun y FF hA => fc (kI 6) V.kO rfl .nil (by rintro _ _ ⟨rfl, rfl⟩; exact kr (by unfold ab.dP; rw [if_neg hx]) (PE.no (by decide)) (aM (ao .nil) (by exact vx (M := FF) (F := F)) (fun w0 h hh => bQ hh)))) ?_
  refine (Qb) ?_
  intro y hA
  exact (cL.fact (hA 10 (by exact Nat.le_of_ble_eq_true rfl)) (q := fun _ => False) rfl).elim
end Go.Proofs.YtmaiakpjgomnpaaGreat
namespace Go.Proofs.YtmaiakpjgomnpaaGreat
open Go.Sl 
attribute [local irreducible] ae.bb ae.tk ae.ord ae.bM ae.words ae.bY ab.gM ab.gK
theorem Eh (p : Option Addr) (n cap : Nat) (ls : List Int) (R : ad) (hn : n = ls.length) (hR : ∀ w0 h, R w0 h → aE I3 p ls.length ls w0 h) : aA Tryz.prog 221 [.slice p n cap] [R] (gB (ab.ig ls) (fun _ v G => ∃ b, v = .pointer (some ⟨b, 0, none⟩) ∧ G = [HC b ls, R]) []) := by
 subst hn
 refine au [(0, _)] Tryz.func221 rfl Tryz.ntmps221 rfl rfl ?_
 intro w0 F
 refine (QP) ?_
 rcases (Classical.em (ae.bb ls = 0)) with hE | hE
 ·refine (Q4) ?_
  refine aj (DQ p cap ls R hR hE) V.PV  rfl (ao .nil) rfl ?_
  rintro _ _ ⟨bh, rfl, rfl⟩
  refine (Qe) ?_
  refine oV (c9 (dz rfl rfl) rfl)<|(E7) ?_
  rintro _ _ ⟨rfl, rfl⟩
  refine (Qn) ?_
  exact jU (x := ()) (by unfold ab.ig; rw [if_pos hE]) (av rfl) ⟨bh, rfl, rfl⟩ (sub (aO .nil) ak)
 ·refine (Q4) ?_
  refine aj (Gt p cap ls R hR hE) V.PV  rfl (ao .nil) rfl ?_
  rintro _ _ ⟨rfl, rfl⟩
  refine (Qe) ?_
  refine oV (bS (dz rfl rfl) hE)<|(AE) ?_
  rintro _ _ ⟨rfl, rfl⟩
  refine (cU ?_)
  exact dq (e := 4) (by unfold ab.ig; rw [if_neg hE]) (PE.no (by decide)) (sub .nil bu)
theorem Bv (x : Int) (n : Nat) (hn : n < 1000000) : aA Tryz.prog 220 [.int .i64 x, .int .i64 (n : Int)] [] (aF fun v G => ∃ p c, v = .slice p n c ∧ G = [Row I3 p n c (List.replicate n x)]) := by
 refine au [(0, _), (1, _)] Tryz.func220 rfl Tryz.ntmps220 rfl rfl ?_
 intro w0 F
 refine rT TT 18 rfl<|iP (Row I3 none 0 0 (List.replicate 0 x)) (Row.nil _ _ _) ?_
 refine gN (fun (k : Nat) (po : Option Addr) (co : Nat) => [(0, .int .i64 x), (5, .slice po k co), (6, .int .i64 (n : Int)), (7, .int .i64 (k : Int))]) (fun (k : Nat) (po : Option Addr) (co : Nat) => Row I3 po k co (List.replicate k x) :: F) (fun (k : Nat) (po : Option Addr) (co : Nat) => k ≤ n) (fun (k : Nat) (po : Option Addr) (co : Nat) => n - k) (i3 (0) (none) (0) ?_ (eg ln) (sub (ao .nil) ak)) ?_
 ·exact Nat.zero_le _
 intro k po co
 rintro hk
 refine (Qm) ?_
 refine aD rfl (fun h8 => ?_) (fun h8 => ?_)
 ·refine (Qs) ?_
  refine cY (I3) [x] V.cH V.z3 rfl rfl rfl rfl rfl rfl ?_
  intro b11
  refine (UJ) ?_
  intro p12 c12
  refine (QG) ?_
  rw [← List.replicate_succ']
  refine j3 (k + 1) (_) (_) ?_ (eg ln) (sub (ao .nil) bu)
  exact ⟨by omega, by omega⟩
 ·refine rC TT 12 rfl ?_
  obtain rfl : k = n := by omega
  exact ag (av rfl) ⟨po, co, rfl, rfl⟩ (sub (ao .nil) ak)
theorem K5  : aA Tryz.prog 222 [] [] (aF fun v G => ∃ p, v = .slice p 19 19 ∧ G = [Row I3 p 19 19 ab.lq]) := by
 refine au [] Tryz.func222 rfl Tryz.ntmps222 rfl rfl ?_
 intro w0 F
 refine rT TT 7 rfl<|cY (I3) [16, 17, 18, 0, 8, 7, 9, 6, 10, 5, 11, 4, 12, 3, 13, 2, 14, 1, 15] V.cH V.z3 rfl rfl rfl rfl rfl rfl ?_
 intro b1
 refine (Q8) ?_
 exact ag (av rfl) ⟨_, rfl, rfl⟩ (sub (ao .nil) ak)
theorem KQ (b : Nat) (B : List Int) (at_ : Nat) (out : List Int) (free : Int) (hl : B.length < 500000000) (ha : at_ ≤ 8 * B.length) : aA Tryz.prog 198 [.pointer (some ⟨b, 0, none⟩)] [LW b B at_ out free] (aF fun v G => v = .tuple #[] ∧ G = [LW b B (ab.cS at_) out free]) := by
 refine au [(0, _)] Tryz.func198 rfl Tryz.ntmps198 rfl rfl ?_
 intro w0 F
 refine (qa) ?_
 rintro ⟨p1, c1, p2, c2⟩ _
 dsimp only
 refine (QU)<|(Qk)<|(pS)<|(qc)<|(ri)<|(pY) ?_
 refine c4 ?_
 rw [show ((at_ : Int) + 8 - 1) / 8 * 8 = ((ab.cS at_ : Nat) : Int) from by unfold ab.cS; omega]
 exact gn eH ⟨rfl, rfl⟩ (aM (eU .nil) ak (fun w0 h hh => nW hh))
theorem mz (b : Nat) (ls : List Int) (b2 : Nat) (B : List Int) (at_ : Nat) (out : List Int) (free : Int) (hE : ae.bb ls = 0) (hl : B.length < 500000000) (hB : af.an B) (ha : at_ ≤ 8 * B.length) : aA Tryz.prog 201 [.pointer (some ⟨b, 0, none⟩), .pointer (some ⟨b2, 0, none⟩)] [HC b ls, LW b2 B at_ out free] (gB (ab.sym ls B at_) (fun x v G => v = .int .i64 x.1 ∧ G = [HC b ls, LW b2 B x.2 out free]) []) := by
 intro w0 F w hi
 refine (Oz b ls b2 B at_ out free hE hl hB ha w0 F w hi).mono ?_
 rintro e w' ⟨G, h1, (⟨v, rfl, n', s', h, rfl, rfl⟩ | ⟨ch, rfl, (⟨n', h, rfl, rfl⟩ | ⟨n', h, rfl, rfl⟩)⟩)⟩
 ·exact ⟨_, h1, .inl ⟨_, rfl, (s', at_ + n'), by unfold ab.sym; rw [h], rfl, rfl⟩⟩
 ·exact ⟨[], h1.right, .inr ⟨_, rfl, 2, by unfold ab.sym; rw [h], PE.end_, rfl⟩⟩
 ·exact ⟨[], h1.right, .inr ⟨_, rfl, 4, by unfold ab.sym; rw [h], PE.none_, rfl⟩⟩
end Go.Proofs.YtmaiakpjgomnpaaGreat
namespace Go.Proofs.YtmaiakpjgomnpaaGreat
open Go.Sl 
attribute [local irreducible] ae.bb ae.tk ae.ord ae.bM ae.words ae.bY ab.gM ab.gK
theorem zk (b bl : Nat) (sz mo : Int) (po : Option Addr) (no co : Nat) (li di : Value) (s : ab.St) : aA Tryz.prog 182 [.pointer (some ⟨b, 0, none⟩)] [ai b 223 [.pointer (some ⟨bl, 0, none⟩), .int .i64 sz, .int .i64 mo, .slice po no co, .bool s.ended, .int .i64 0, .int .i64 s.kind, .int .i64 (s.left : Int), .bool s.last, li, di, .int .i64 (s.aw : Int), .int .i64 (s.bA : Int)]] (aF fun v G => v = .tuple #[] ∧ G = [ai b 223 [.pointer (some ⟨bl, 0, none⟩), .int .i64 sz, .int .i64 mo, .slice po no co, .bool s.last, .int .i64 0, .int .i64 (-1), .int .i64 (s.left : Int), .bool s.last, li, di, .int .i64 (s.aw : Int), .int .i64 (s.bA : Int)]]) := by
 refine au [(0, _)] Tryz.func182 rfl Tryz.ntmps182 rfl rfl ?_
 intro w0 F
 refine (QU)<|(nf)<|(Q6)<|(pY)<|(Q6)<|(Ak) ?_
 exact c4<|gn eH ⟨rfl, rfl⟩ (sub (ao .nil) ak)
set_option maxHeartbeats 1000000 in
theorem I4 (b bl : Nat) (sz mo : Int) (po : Option Addr) (no co : Nat) (li di : Value) (s : ab.St) (B : List Int) (a : Nat) (sy : Int) (pl : Option Addr) (cl : Nat) (l : List Int) (hs : 0 ≤ sy ∧ sy ≤ 18) (hl : B.length < 500000000) (hB : af.an B) (ha : a ≤ 8 * B.length) (hll : l.length < 1000000) : aA Tryz.prog 223 [.pointer (some ⟨b, 0, none⟩), .int .i64 sy, .slice pl l.length cl] [ai b 223 [.pointer (some ⟨bl, 0, none⟩), .int .i64 sz, .int .i64 mo, .slice po no co, .bool s.ended, .int .i64 0, .int .i64 s.kind, .int .i64 (s.left : Int), .bool s.last, li, di, .int .i64 (s.aw : Int), .int .i64 (s.bA : Int)], LW bl B a [] 0, Row I3 pl l.length cl l] (gB (ab.rep B sy l a) (fun x v G => v = .tuple #[.int .i64 x.1, .int .i64 x.2.1] ∧ G = [ai b 223 [.pointer (some ⟨bl, 0, none⟩), .int .i64 sz, .int .i64 mo, .slice po no co, .bool s.ended, .int .i64 0, .int .i64 s.kind, .int .i64 (s.left : Int), .bool s.last, li, di, .int .i64 (s.aw : Int), .int .i64 (s.bA : Int)], LW bl B x.2.2 [] 0, Row I3 pl l.length cl l]) [MX b bl sz mo]) := by
 refine au [(0, _), (1, _), (2, _)] Tryz.func223 rfl Tryz.ntmps223 rfl rfl ?_
 intro w0 F
 refine rT TT 19 rfl ?_
 refine aD rfl (fun h10 => ?_) (fun h10 => ?_)
 ·rcases (Nat.lt_or_ge (8 * B.length) (a + 2)) with hx | hx
  ·refine (Qa) ?_
   have hy : sy = 16 := h10
   subst hy
   have hnb := af.bF B a 2
   refine (Q5)<|(oM) ?_
   refine dg (fx bl B a [] 0 2 hl hB (by omega) (by omega) (by omega)) V.ef rfl (.cons ax .nil) ?_
   rintro _ _ ⟨rfl, rfl⟩
   refine (cU (eE (cU ?_)))
   exact dq (e := 2) (ab.oY (by decide) (show 8 * B.length < a + 2 from hx)) PE.end_ (aM (.cons ax .nil) fV (fun w0 h hh => bQ hh))
  ·refine (Qa) ?_
   have hy : sy = 16 := h10
   subst hy
   have hnb := af.bF B a 2
   refine (Q5)<|(oM) ?_
   refine aj (eQ bl B a [] 0 2 hl hB (by omega) (by omega)) V.ef  rfl (.cons ax .nil) rfl ?_
   rintro _ _ ⟨rfl, rfl⟩
   refine (ri) ?_
   rcases (Nat.eq_zero_or_pos l.length) with hl0 | hl0
   ·refine (Q5)<|(Qr)<|(AE) ?_
    rintro _ _ ⟨rfl, rfl⟩
    refine (cU (eE (cU ?_)))
    exact dq (e := 4) (ab.GZ rfl (List.length_eq_zero_iff.1 hl0) (show ¬ 8 * B.length < a + 2 from by omega)) (PE.no (by decide)) (aM (.cons ax .nil) fV (fun w0 h hh => bQ hh))
   ·refine (Q5)<|(Qu)<|(E7) ?_
    rintro _ _ ⟨rfl, rfl⟩
    refine (Qg) ?_
    have hgl : I3.g l ((l.length : Int) - 1) = l.getD (l.length - 1) 0 := gE _ (by omega)
    refine jJ TT 5 rfl (by omega)<|oV (xI V.cH (own dJ))<|oV (xL V.s3 (own dJ))<|(Ql) ?_
    rw [hgl]
    exact jU (x := (l.getD (l.length - 1) 0, 3 + af.aJ B a 2, a + 2)) (ab.xy (by decide) (show ¬ 8 * B.length < a + 2 from by omega) (fun h => by rw [h.2] at hl0; simp at hl0)) (ev rfl rfl) ⟨rfl, rfl⟩ (sub (.cons ax (aO .nil)) ak)
 ·refine (Qi) ?_
  refine aD rfl (fun h29 => ?_) (fun h29 => ?_)
  ·rcases (Nat.lt_or_ge (8 * B.length) (a + 3)) with hx | hx
   ·refine (Qa) ?_
    have hy : sy = 17 := h29
    subst hy
    have hnb := af.bF B a 3
    refine (Q5)<|(oM) ?_
    refine dg (fx bl B a [] 0 3 hl hB (by omega) (by omega) (by omega)) V.ef rfl (.cons ax .nil) ?_
    rintro _ _ ⟨rfl, rfl⟩
    refine (cU (eE (cU ?_)))
    exact dq (e := 2) (ab.oY (by decide) (show 8 * B.length < a + 3 from hx)) PE.end_ (aM (.cons ax .nil) fV (fun w0 h hh => bQ hh))
   ·refine (Qa) ?_
    have hy : sy = 17 := h29
    subst hy
    have hnb := af.bF B a 3
    refine (Q5)<|(oM) ?_
    refine aj (eQ bl B a [] 0 3 hl hB (by omega) (by omega)) V.ef  rfl (.cons ax .nil) rfl ?_
    rintro _ _ ⟨rfl, rfl⟩
    refine (QG) ?_
    exact jU (x := (0, 3 + af.aJ B a 3, a + 3)) (ab.xy (by decide) (show ¬ 8 * B.length < a + 3 from by omega) (fun h => absurd h.1 (by decide))) (ev rfl rfl) ⟨rfl, rfl⟩ (sub (.cons ax (aO .nil)) ak)
  ·refine (Qi) ?_
   refine aD rfl (fun h37 => ?_) (fun h37 => ?_)
   ·rcases (Nat.lt_or_ge (8 * B.length) (a + 7)) with hx | hx
    ·refine (Qa) ?_
     have hy : sy = 18 := h37
     subst hy
     have hnb := af.bF B a 7
     refine (Q5)<|(oM) ?_
     refine dg (fx bl B a [] 0 7 hl hB (by omega) (by omega) (by omega)) V.ef rfl (.cons ax .nil) ?_
     rintro _ _ ⟨rfl, rfl⟩
     refine (cU (eE (cU ?_)))
     exact dq (e := 2) (ab.oY (by decide) (show 8 * B.length < a + 7 from hx)) PE.end_ (aM (.cons ax .nil) fV (fun w0 h hh => bQ hh))
    ·refine (Qa) ?_
     have hy : sy = 18 := h37
     subst hy
     have hnb := af.bF B a 7
     refine (Q5)<|(oM) ?_
     refine aj (eQ bl B a [] 0 7 hl hB (by omega) (by omega)) V.ef  rfl (.cons ax .nil) rfl ?_
     rintro _ _ ⟨rfl, rfl⟩
     refine (QG) ?_
     exact jU (x := (0, 11 + af.aJ B a 7, a + 7)) (ab.xy (by decide) (show ¬ 8 * B.length < a + 7 from by omega) (fun h => absurd h.1 (by decide))) (ev rfl rfl) ⟨rfl, rfl⟩ (sub (.cons ax (aO .nil)) ak)
   ·refine (ox) ?_
    exact jU (x := (sy, 1, a)) (ab.Nq (by omega)) (ev rfl rfl) ⟨rfl, rfl⟩ (sub (eU .nil) ak)
end Go.Proofs.YtmaiakpjgomnpaaGreat
namespace Go.Sl
section
variable {C : Ctx} {E : Env} {L F : List ad} {ops : Array Oper} {d : Option Nat} {ty : TypeId} {pos : String} {aft : Array Edge}
theorem nU {A : Nat → ad} {f : FuncId} {args : List Operand} {tys : Array TypeId} {vs : List Value} {Pre Post : List ad} (hS : aA C.P f vs Pre (aF fun v G => ∃ b, v = .pointer (some ⟨b, 0, none⟩) ∧ G = A b :: Post)) (hb : ay C.P f = true) (hE : gH E args = some vs) (hL : eL L Pre F) :
    Step C ops ⟨d, .call ⟨.value (.func f), args.toArray, tys⟩, ty, pos, aft, none⟩ E L (fun v L' => v = .pointer (some ⟨fo v, 0, none⟩) ∧ True ∧ L'.Perm ((A (fo v) :: Post) ++ F)) :=
  qS hS hb hE hL fun v G ⟨b, e1, e2⟩ => by subst e1; subst e2; exact ⟨rfl, trivial, .refl _⟩
theorem jl {t n e sz : Nat} {parts : List (Nat × Operand)} {pv : List (Nat × Value)} {zs cs : List Value} (har : iA C.P t = some (n, e, sz)) (hz : cx C.P t = some zs) (hp : ot E parts = some pv) (hf : Instr.fill (fun i => some (i * sz, sz)) zs.toArray pv = some cs.toArray) :
    bB C (.build t parts.toArray) ty E L (.agg cs.toArray) L :=
  cV fun d pos aft g a w ha => by
    obtain ⟨i', z, hz1, hz2, hz3, hz4⟩ := jm hz
    have hmap : parts.toArray.map (fun x => match x with | (i, x) => (i, a.eval x)) = pv.toArray := by
      rw [← my hp a ha]; simp
    unfold iA at har
    split at har
    · rename_i n' e' hfs
      split at har
      · rename_i i hi
        cases har
        simp only [execOp, hmap, Instr.build, Sem.run_bind, zeroValue, typeInfo, run_program, Result.andThen_ok, hz1, hz2, Sem.run_pure, run_underlying hfs, run_sizeOf hi, hz3]
        simp [hf]
      · cases har
    · cases har
end
theorem nL {p : Option Addr} {n c m : Nat} {l : List Int} {w0 : World} {h : Hp} (hn : n = l.length) (hm : m ≤ n) (hh : Row I3 p n c l w0 h) : aE I3 p (l.take m).length (l.take m) w0 h := by
  have := hh.rd.sub 0 m m (Nat.zero_le _) hm (Nat.le_refl _)
  rw [mN, Nat.sub_zero, List.drop_zero] at this
  rw [List.length_take, ← hn, Nat.min_eq_left hm]
  exact this
theorem yD {p : Option Addr} {n c m : Nat} {l : List Int} {w0 : World} {h : Hp} (hn : n = l.length) (hm : m ≤ n) (hc : n ≤ c) (hh : Row I3 p n c l w0 h) : aE I3 (dG p m c 1) (l.drop m).length (l.drop m) w0 h := by
  have := hh.rd.sub m n c hm (Nat.le_refl _) hc
  rw [List.take_of_length_le (by rw [List.length_drop]; omega)] at this
  rw [List.length_drop, ← hn]
  exact this
theorem tD {p : Option Addr} {n c : Nat} {l : List Int} {w0 : World} {h : Hp} (hn : n = l.length) (hh : Row I3 p n c l w0 h) : aE I3 p l.length l w0 h := by subst hn; exact hh.rd
end Go.Sl
namespace Go.Proofs.YtmaiakpjgomnpaaGreat
open Go.Sl 
attribute [local irreducible] ae.bb ae.tk ae.ord ae.bM ae.words ae.bY ab.gK ab.bU ab.cC ab.dp ab.hL ab.hD ab.hC ab.eG ab.told ab.fb ab.ig ab.rep
abbrev P2 : Ec (Int × Int) := ⟨246, 2, fun x => [.int .i64 x.1, .int .i64 x.2], (0, 0), fun _ => rfl, fun _ => rfl⟩
theorem kR (p : Option Addr) (n cap : Nat) (ls : List Int) (R : ad) (hn : n = ls.length) (hR : ∀ w0 h, R w0 h → aE I3 p ls.length ls w0 h) (hE : ae.bb ls = 0) : aA Tryz.prog 221 [.slice p n cap] [R] (aF fun v G => ∃ b, v = .pointer (some ⟨b, 0, none⟩) ∧ G = [HC b ls, R]) :=
 (Eh p n cap ls R hn hR).ok (x := ()) (by unfold ab.ig; rw [if_pos hE])
theorem um (p : Option Addr) (n cap : Nat) (ls : List Int) (R : ad) (hn : n = ls.length) (hR : ∀ w0 h, R w0 h → aE I3 p ls.length ls w0 h) (hE : ae.bb ls ≠ 0) : aA Tryz.prog 221 [.slice p n cap] [R] (re fun ch G => PE 4 ch ∧ G = []) :=
 (Eh p n cap ls R hn hR).err (by unfold ab.ig; rw [if_neg hE])
theorem C6 (x n : Int) (hn : 0 ≤ n ∧ n < 1000000) : aA Tryz.prog 220 [.int .i64 x, .int .i64 n] [] (aF fun v G => ∃ p c, v = .slice p n.toNat c ∧ G = [Row I3 p n.toNat c (List.replicate n.toNat x)]) := by
 have h := Bv x n.toNat (by omega)
 rw [Int.toNat_of_nonneg hn.1] at h
 exact h
theorem K2 (b bl : Nat) (sz mo : Int) (po : Option Addr) (no co : Nat) (li di : Value) (s : ab.St) : aA Tryz.prog 199 [.pointer (some ⟨b, 0, none⟩)] [ai b 223 [.pointer (some ⟨bl, 0, none⟩), .int .i64 sz, .int .i64 mo, .slice po no co, .bool s.ended, .int .i64 0, .int .i64 s.kind, .int .i64 (s.left : Int), .bool s.last, li, di, .int .i64 (s.aw : Int), .int .i64 (s.bA : Int)]] (aF fun v G => ∃ l d, v = .tuple #[] ∧ G = [ai b 223 [.pointer (some ⟨bl, 0, none⟩), .int .i64 sz, .int .i64 mo, .slice po no co, .bool s.ended, .int .i64 0, .int .i64 s.kind, .int .i64 (s.left : Int), .bool s.last, (.pointer (some ⟨l, 0, none⟩)), (.pointer (some ⟨d, 0, none⟩)), .int .i64 (s.aw : Int), .int .i64 (s.bA : Int)], HC l ab.fb, HC d ab.kq]) := by
 refine au [(0, _)] Tryz.func199 rfl Tryz.ntmps199 rfl rfl ?_
 intro w0 F
 refine (QH) ?_
 iterate 4 refine oV (jl V.BX V.F3 rfl (cs := [_, _]) rfl) ?_
 refine cY (P2) ab.gZ V.HX V.F3 rfl rfl rfl rfl rfl rfl ?_
 intro b9
 refine (Q3) ?_
 refine iP (Row I3 none 0 0 (ab.gM 0)) (Row.nil _ _ _) ?_
 refine gN (fun (k : Nat) (pr : Option Addr) (cr : Nat) => [(0, .pointer (some ⟨b, 0, none⟩)), (2, .slice pr (ab.gM k).length cr), (9, .slice (some ⟨b9, 0, none⟩) 4 4), (10, .int .i64 4), (11, .int .i64 (k : Int))]) (fun (k : Nat) (pr : Option Addr) (cr : Nat) => Row I3 pr (ab.gM k).length cr (ab.gM k) :: Row P2 (some ⟨b9, 0, none⟩) 4 4 ab.gZ :: ai b 223 [.pointer (some ⟨bl, 0, none⟩), .int .i64 sz, .int .i64 mo, .slice po no co, .bool s.ended, .int .i64 0, .int .i64 s.kind, .int .i64 (s.left : Int), .bool s.last, li, di, .int .i64 (s.aw : Int), .int .i64 (s.bA : Int)] :: F) (fun (k : Nat) (pr : Option Addr) (cr : Nat) => k ≤ 4) (fun (k : Nat) (pr : Option Addr) (cr : Nat) => 4 - k) (i3 (0) (none) (0) ?_ (bP ln) (sub (eU .nil) ak)) ?_
 ·exact Nat.zero_le _
 intro k pr cr
 rintro hk
 refine (Qm) ?_
 refine aD rfl (fun h12 => ?_) (fun h12 => ?_)
 ·refine (Qi) ?_
  refine oV (xI V.HX (own dC))<|oV (mZ (c := (P2)) V.MA rfl (own dC) (by omega) (by omega) rfl)<|dh V.F3 rfl ?_
  intro b4
  refine cA (bd V.MA rfl rfl (us := [_, _]) rfl rfl (by exact fO) (by exact Nat.le_of_ble_eq_true rfl) rfl)<|(Q6) ?_
  have hf1 : 0 ≤ (P2.g ab.gZ (k : Int)).2 ∧ (P2.g ab.gZ (k : Int)).2 < 200 := ab.Md (by omega)
  have hf2 := ab.Jr k (by omega)
  refine (Q9) ?_
  refine oV (ez 0 rfl V.BX rfl rfl (by omega))<|(Qk) ?_
  refine oV (ez 1 rfl V.BX rfl rfl (by omega))<|(Qk) ?_
  refine aj (C6 (P2.g ab.gZ (k : Int)).1 (P2.g ab.gZ (k : Int)).2 (by omega)) V.BI  rfl .nil rfl ?_
  rintro _ _ ⟨p20, c20, rfl, rfl⟩
  refine ew (c := (I3)) V.cH V.z3 rfl rfl rfl rfl bo (own aB) (by omega) rfl ?_
  intro p21 c21
  refine (QG) ?_
  have hst : ab.gM (k + 1) = ab.gM k ++ List.replicate (P2.g ab.gZ (k : Int)).2.toNat (P2.g ab.gZ (k : Int)).1 := ab.EB k
  have hsl : (ab.gM (k + 1)).length = (ab.gM k).length + (P2.g ab.gZ (k : Int)).2.toNat := by rw [hst, List.length_append, List.length_replicate]
  rw [← hst, ← hsl]
  refine j3 (k + 1) (_) (_) ?_ (bP ln) (sub (ao (.cons bo (.cons bo .nil))) fV)
  exact ⟨by omega, by omega⟩
 ·refine (Qf) ?_
  have hk4 : k = 4 := by omega
  have hfl : ae.bb (ab.gM k) = 0 := by rw [hk4, ab.Eg]; exact ab.zI
  refine (Q5) ?_
  refine aj (kR pr (ab.gM k).length cr (ab.gM k) (Row I3 pr (ab.gM k).length cr (ab.gM k)) rfl (fun _ _ hh => tD rfl hh) hfl) V.mS  rfl (ao .nil) rfl ?_
  rintro _ _ ⟨l26, rfl, rfl⟩
  refine aj (Bv 5 32 (by omega)) V.BI  rfl .nil rfl ?_
  rintro _ _ ⟨p27, C0, rfl, rfl⟩
  refine aj (kR p27 32 C0 (List.replicate 32 5) (Row I3 p27 32 C0 (List.replicate 32 5)) rfl (fun _ _ hh => tD rfl hh) ab.zn) V.mS  rfl (ao .nil) rfl ?_
  rintro _ _ ⟨d28, rfl, rfl⟩
  refine (Q6)<|(VF)<|(Q6)<|(VF) ?_
  refine c4 ?_
  rw [hk4, ab.Eg]
  exact gn eH ⟨l26, d28, rfl, rfl⟩ (sub (.cons jF (.cons bo (ao .nil))) ny)
end Go.Proofs.YtmaiakpjgomnpaaGreat
namespace Go.Proofs.YtmaiakpjgomnpaaGreat
open Go.Sl 
theorem cn : jH Tryz.prog ⟨[47], [(223, 0, 0)]⟩ = true := by kernel_rfl
attribute [local irreducible] ae.bb ae.tk ae.ord ae.bM ae.words ae.bY ab.gK ab.bU ab.cC ab.dp ab.hL ab.hD ab.hC ab.eG ab.told ab.fb ab.ig ab.rep
set_option maxHeartbeats 4000000 in
theorem Dc (b bl : Nat) (sz mo : Int) (po : Option Addr) (no co : Nat) (li di : Value) (s : ab.St) (B : List Int) (a : Nat) (hl : B.length < 500000000) (hB : af.an B) (ha : a ≤ 8 * B.length) : aA Tryz.prog 200 [.pointer (some ⟨b, 0, none⟩)] [ai b 223 [.pointer (some ⟨bl, 0, none⟩), .int .i64 sz, .int .i64 mo, .slice po no co, .bool s.ended, .int .i64 0, .int .i64 s.kind, .int .i64 (s.left : Int), .bool s.last, li, di, .int .i64 (s.aw : Int), .int .i64 (s.bA : Int)], LW bl B a [] 0] (gB (ab.told B a) (fun x v G => ∃ l d, v = .tuple #[] ∧ G = [ai b 223 [.pointer (some ⟨bl, 0, none⟩), .int .i64 sz, .int .i64 mo, .slice po no co, .bool s.ended, .int .i64 0, .int .i64 s.kind, .int .i64 (s.left : Int), .bool s.last, (.pointer (some ⟨l, 0, none⟩)), (.pointer (some ⟨d, 0, none⟩)), .int .i64 (s.aw : Int), .int .i64 (s.bA : Int)], LW bl B x.1 [] 0, HC l x.2.1, HC d x.2.2]) [MX b bl sz mo]) := by
 refine au [(0, _)] Tryz.func200 rfl Tryz.ntmps200 rfl rfl ?_
 intro w0 F
 have hn1 := af.bF B a 5
 have hn2 := af.bF B (a + 5) 5
 have hn3 := af.bF B (a + 10) 4
 obtain ⟨he1, he2, he3, he4, he5, he6, he7, he8⟩ := ab.Fa B a
 have hNN : ab.cC B a = ab.hL B a + ab.hD B a := ab.wy B a
 have hAA : ab.dp B a = a + 14 + 3 * ab.hC B a := ab.xt B a
 rcases (ab.S3 B.length a) with hx | ⟨hx1, hx⟩ | ⟨hx1, hx⟩ | h14
 ·refine rT cn 1 rfl ?_
  refine wN [pz 0 [] [0], pz 1 [0] [], pz 3 [1] [], pz 7 [2] [], pz 15 [3] [], pz 31 [4] [], pz 0 [] [0], pz 64 [6] [], pz 192 [7] [], pz 448 [8] [], pz 991 [9] [], pz 2015 [10] [], pz 0 [] [0], pz 4096 [12] [], pz 12288 [13] [], pz 28672 [14] [], pz 63455 [15] [], pz 128991 [16] [], pz 129023 [5] [], pz 393215 [11] [], pz 1048575 [17] []] [⟨fun y => ai b 223 [.pointer (some ⟨bl, 0, none⟩), .int .i64 sz, .int .i64 mo, .slice po no co, .bool s.ended, .int .i64 0, .int .i64 s.kind, .int .i64 (s.left : Int), .bool s.last, li, di, .int .i64 (s.aw : Int), .int .i64 (s.bA : Int)], none, none, [3, 4, 9, 15]⟩, ⟨fun y => LW bl B a [] 0, none, none, [4]⟩] F V.mixed ?_
  refine nM ?_
  refine nN ?_
  refine nG V.gv ?_
  refine nR (fun y FF hA => az V.fT rfl aB rfl) ?_
  refine aU (undef) _ _ (fun y => rfl) rfl (fun y => rfl) (fun y FF hA => fc (fx bl B a [] 0 5 hl hB (by omega) (by omega) (by omega)) V.ef rfl (.cons ax .nil) (by rintro _ _ ⟨rfl, rfl⟩; exact kr (ab.tx (by omega)) PE.end_ (aM (.cons ax .nil) (by exact wg (M := FF) (F := F)) (fun w0 h hh => bQ hh)))) ?_
  refine aU (.bool true) _ _ (fun y => rfl) rfl (fun y => rfl) (fun y FF hA => (cL.fact (hA 4 (by decide)) (q := fun _ => False) rfl).elim) ?_
  refine nM ?_
  refine nN ?_
  refine nG V.gv ?_
  refine nR (fun y FF hA => az V.fT rfl aB rfl) ?_
  refine aU (.bool true) _ _ (fun y => rfl) rfl (fun y => rfl) (fun y FF hA => (cL.fact (hA 4 (by decide)) (q := fun _ => False) rfl).elim) ?_
  refine aU (.bool true) _ _ (fun y => rfl) rfl (fun y => rfl) (fun y FF hA => (cL.fact (hA 4 (by decide)) (q := fun _ => False) rfl).elim) ?_
  refine nM ?_
  refine nN ?_
  refine nG V.gv ?_
  refine nR (fun y FF hA => az V.fT rfl aB rfl) ?_
  refine aU (.bool true) _ _ (fun y => rfl) rfl (fun y => rfl) (fun y FF hA => (cL.fact (hA 4 (by decide)) (q := fun _ => False) rfl).elim) ?_
  refine aU (.bool true) _ _ (fun y => rfl) rfl (fun y => rfl) (fun y FF hA => (cL.fact (hA 4 (by decide)) (q := fun _ => False) rfl).elim) ?_
  refine aU (.bool true) _ _ (fun y => rfl) rfl (fun y => rfl) (fun y FF hA => (cL.fact (hA 4 (by decide)) (q := fun _ => False) rfl).elim) ?_
  refine aU (.bool true) _ _ (fun y => rfl) rfl (fun y => rfl) (fun y FF hA => (cL.fact (hA 4 (by decide)) (q := fun _ => False) rfl).elim) ?_
  refine aU (.bool true) _ _ (fun y => rfl) rfl (fun y => rfl) (fun y FF hA => (cL.fact (hA 4 (by decide)) (q := fun _ => False) rfl).elim) ?_
  refine cQ ?_
  intro y hA
  exact (cL.fact (hA 4 (by exact Nat.le_of_ble_eq_true rfl)) (q := fun _ => False) rfl).elim
 ·refine rT cn 1 rfl ?_
  refine wN [pz 0 [] [0], pz 1 [0] [], pz 3 [1] [], pz 7 [2] [], pz 15 [3] [], pz 31 [4] [], pz 0 [] [0], pz 64 [6] [], pz 192 [7] [], pz 448 [8] [], pz 991 [9] [], pz 2015 [10] [], pz 0 [] [0], pz 4096 [12] [], pz 12288 [13] [], pz 28672 [14] [], pz 63455 [15] [], pz 128991 [16] [], pz 129023 [5] [], pz 393215 [11] [], pz 1048575 [17] []] [⟨fun y => ai b 223 [.pointer (some ⟨bl, 0, none⟩), .int .i64 sz, .int .i64 mo, .slice po no co, .bool s.ended, .int .i64 0, .int .i64 s.kind, .int .i64 (s.left : Int), .bool s.last, li, di, .int .i64 (s.aw : Int), .int .i64 (s.bA : Int)], none, none, [3, 9, 10, 15]⟩, ⟨fun y => LW bl B a [] 0, none, some 4, []⟩, ⟨fun y => LW bl B (a + 5) [] 0, some 4, none, [10]⟩] F V.mixed ?_
  refine nM ?_
  refine nN ?_
  refine nG V.gv ?_
  refine nR (fun y FF hA => az V.fT rfl aB rfl) ?_
  refine nE (fun y FF hA => aV (Post := [LW bl B (a + 5) [] 0]) (eQ bl B a [] 0 5 hl hB (by omega) (by omega)) V.ef rfl (ao .nil) (fun v G h => by rcases h with ⟨rfl, rfl⟩; exact ⟨rfl, .refl _⟩)) ?_
  refine nV (fun y hA L => ei rfl rfl wI) ?_
  refine nM ?_
  refine nN ?_
  refine nG V.gv ?_
  refine nR (fun y FF hA => az V.fT rfl aB rfl) ?_
  refine aU (undef) _ _ (fun y => rfl) rfl (fun y => rfl) (fun y FF hA => fc (fx bl B (a + 5) [] 0 5 hl hB (by omega) (by omega) (by omega)) V.ef rfl (.cons ax .nil) (by rintro _ _ ⟨rfl, rfl⟩; exact kr (ab.tx (by omega)) PE.end_ (aM (.cons ax .nil) (by exact wg (M := FF) (F := F)) (fun w0 h hh => bQ hh)))) ?_
  refine aU (.bool true) _ _ (fun y => rfl) rfl (fun y => rfl) (fun y FF hA => (cL.fact (hA 10 (by decide)) (q := fun _ => False) rfl).elim) ?_
  refine nM ?_
  refine nN ?_
  refine nG V.gv ?_
  refine nR (fun y FF hA => az V.fT rfl aB rfl) ?_
  refine aU (.bool true) _ _ (fun y => rfl) rfl (fun y => rfl) (fun y FF hA => (cL.fact (hA 10 (by decide)) (q := fun _ => False) rfl).elim) ?_
  refine aU (.bool true) _ _ (fun y => rfl) rfl (fun y => rfl) (fun y FF hA => (cL.fact (hA 10 (by decide)) (q := fun _ => False) rfl).elim) ?_
  refine aU (.bool true) _ _ (fun y => rfl) rfl (fun y => rfl) (fun y FF hA => (cL.fact (hA 10 (by decide)) (q := fun _ => False) rfl).elim) ?_
  refine aU (.bool true) _ _ (fun y => rfl) rfl (fun y => rfl) (fun y FF hA => (cL.fact (hA 10 (by decide)) (q := fun _ => False) rfl).elim) ?_
  refine aU (.bool true) _ _ (fun y => rfl) rfl (fun y => rfl) (fun y FF hA => (cL.fact (hA 10 (by decide)) (q := fun _ => False) rfl).elim) ?_
  refine cQ ?_
  intro y hA
  exact (cL.fact (hA 10 (by exact Nat.le_of_ble_eq_true rfl)) (q := fun _ => False) rfl).elim
 ·refine rT cn 1 rfl ?_
  refine wN [pz 0 [] [0], pz 1 [0] [], pz 3 [1] [], pz 7 [2] [], pz 15 [3] [], pz 31 [4] [], pz 0 [] [0], pz 64 [6] [], pz 192 [7] [], pz 448 [8] [], pz 991 [9] [], pz 2015 [10] [], pz 0 [] [0], pz 4096 [12] [], pz 12288 [13] [], pz 28672 [14] [], pz 63455 [15] [], pz 128991 [16] [], pz 129023 [5] [], pz 393215 [11] [], pz 1048575 [17] []] [⟨fun y => ai b 223 [.pointer (some ⟨bl, 0, none⟩), .int .i64 sz, .int .i64 mo, .slice po no co, .bool s.ended, .int .i64 0, .int .i64 s.kind, .int .i64 (s.left : Int), .bool s.last, li, di, .int .i64 (s.aw : Int), .int .i64 (s.bA : Int)], none, none, [3, 9, 15, 16]⟩, ⟨fun y => LW bl B a [] 0, none, some 4, []⟩, ⟨fun y => LW bl B (a + 5) [] 0, some 4, some 10, []⟩, ⟨fun y => LW bl B (a + 10) [] 0, some 10, none, [16]⟩] F V.mixed ?_
  refine nM ?_
  refine nN ?_
  refine nG V.gv ?_
  refine nR (fun y FF hA => az V.fT rfl aB rfl) ?_
  refine nE (fun y FF hA => aV (Post := [LW bl B (a + 5) [] 0]) (eQ bl B a [] 0 5 hl hB (by omega) (by omega)) V.ef rfl (ao .nil) (fun v G h => by rcases h with ⟨rfl, rfl⟩; exact ⟨rfl, .refl _⟩)) ?_
  refine nV (fun y hA L => ei rfl rfl wI) ?_
  refine nM ?_
  refine nN ?_
  refine nG V.gv ?_
  refine nR (fun y FF hA => az V.fT rfl aB rfl) ?_
  refine nE (fun y FF hA => aV (Post := [LW bl B (a + 10) [] 0]) (eQ bl B (a + 5) [] 0 5 hl hB (by omega) (by omega)) V.ef rfl (ao .nil) (fun v G h => by rcases h with ⟨rfl, rfl⟩; exact ⟨rfl, .refl _⟩)) ?_
  refine nV (fun y hA L => ei rfl rfl wI) ?_
  refine nM ?_
  refine nN ?_
  refine nG V.gv ?_
  refine nR (fun y FF hA => az V.fT rfl aB rfl) ?_
  refine aU (undef) _ _ (fun y => rfl) rfl (fun y => rfl) (fun y FF hA => fc (fx bl B (a + 10) [] 0 4 hl hB (by omega) (by omega) (by omega)) V.ef rfl (.cons ax .nil) (by rintro _ _ ⟨rfl, rfl⟩; exact kr (ab.tx (by omega)) PE.end_ (aM (.cons ax .nil) (by exact wg (M := FF) (F := F)) (fun w0 h hh => bQ hh)))) ?_
  refine aU (.bool true) _ _ (fun y => rfl) rfl (fun y => rfl) (fun y FF hA => (cL.fact (hA 16 (by decide)) (q := fun _ => False) rfl).elim) ?_
  refine aU (.bool true) _ _ (fun y => rfl) rfl (fun y => rfl) (fun y FF hA => (cL.fact (hA 16 (by decide)) (q := fun _ => False) rfl).elim) ?_
  refine aU (.bool true) _ _ (fun y => rfl) rfl (fun y => rfl) (fun y FF hA => (cL.fact (hA 16 (by decide)) (q := fun _ => False) rfl).elim) ?_
  refine aU (.bool true) _ _ (fun y => rfl) rfl (fun y => rfl) (fun y FF hA => (cL.fact (hA 16 (by decide)) (q := fun _ => False) rfl).elim) ?_
  refine cQ ?_
  intro y hA
  exact (cL.fact (hA 16 (by exact Nat.le_of_ble_eq_true rfl)) (q := fun _ => False) rfl).elim
 ·refine rT cn 1 rfl ?_
  refine wN [pz 0 [] [0], pz 1 [0] [], pz 3 [1] [], pz 7 [2] [], pz 15 [3] [], pz 31 [4] [], pz 0 [] [0], pz 64 [6] [], pz 192 [7] [], pz 448 [8] [], pz 991 [9] [], pz 2015 [10] [], pz 0 [] [0], pz 4096 [12] [], pz 12288 [13] [], pz 28672 [14] [], pz 63455 [15] [], pz 128991 [16] [], pz 129023 [5] [], pz 393215 [11] [], pz 1048575 [17] []] [⟨fun y => ai b 223 [.pointer (some ⟨bl, 0, none⟩), .int .i64 sz, .int .i64 mo, .slice po no co, .bool s.ended, .int .i64 0, .int .i64 s.kind, .int .i64 (s.left : Int), .bool s.last, li, di, .int .i64 (s.aw : Int), .int .i64 (s.bA : Int)], none, none, [3, 9, 15]⟩, ⟨fun y => LW bl B a [] 0, none, some 4, []⟩, ⟨fun y => LW bl B (a + 5) [] 0, some 4, some 10, []⟩, ⟨fun y => LW bl B (a + 10) [] 0, some 10, some 16, []⟩, ⟨fun y => LW bl B (a + 14) [] 0, some 16, none, []⟩] F V.mixed ?_
  refine nM ?_
  refine nN ?_
  refine nG V.gv ?_
  refine nR (fun y FF hA => az V.fT rfl aB rfl) ?_
  refine nE (fun y FF hA => aV (Post := [LW bl B (a + 5) [] 0]) (eQ bl B a [] 0 5 hl hB (by omega) (by omega)) V.ef rfl (ao .nil) (fun v G h => by rcases h with ⟨rfl, rfl⟩; exact ⟨rfl, .refl _⟩)) ?_
  refine nV (fun y hA L => ei rfl rfl wI) ?_
  refine nM ?_
  refine nN ?_
  refine nG V.gv ?_
  refine nR (fun y FF hA => az V.fT rfl aB rfl) ?_
  refine nE (fun y FF hA => aV (Post := [LW bl B (a + 10) [] 0]) (eQ bl B (a + 5) [] 0 5 hl hB (by omega) (by omega)) V.ef rfl (ao .nil) (fun v G h => by rcases h with ⟨rfl, rfl⟩; exact ⟨rfl, .refl _⟩)) ?_
  refine nV (fun y hA L => ei rfl rfl wI) ?_
  refine nM ?_
  refine nN ?_
  refine nG V.gv ?_
  refine nR (fun y FF hA => az V.fT rfl aB rfl) ?_
  refine nE (fun y FF hA => aV (Post := [LW bl B (a + 14) [] 0]) (eQ bl B (a + 10) [] 0 4 hl hB (by omega) (by omega)) V.ef rfl (ao .nil) (fun v G h => by rcases h with ⟨rfl, rfl⟩; exact ⟨rfl, .refl _⟩)) ?_
  refine nV (fun y hA L => ei rfl rfl wI) ?_
  iterate 3 refine nA ?_
  refine cQ ?_
  intro y hA
  clear hA
  refine bj ?_
  refine bD _ (.cons (d := 0) rfl (.cons (d := 2) rfl (.cons (d := 3) rfl (.cons (d := 4) rfl (.nil _))))) ?_
  refine a7 (M := ai b 223 [.pointer (some ⟨bl, 0, none⟩), .int .i64 sz, .int .i64 mo, .slice po no co, .bool s.ended, .int .i64 0, .int .i64 s.kind, .int .i64 (s.left : Int), .bool s.last, li, di, .int .i64 (s.aw : Int), .int .i64 (s.bA : Int)] :: LW bl B (a + 14) [] 0 :: F) (fun _ _ h => h) ?_
  rcases (ab.UO (ab.hL B a ≤ 286) (ab.hD B a ≤ 30)) with ⟨hq1, hq2⟩ | ⟨hq1, hq2⟩ | hq1
  ·refine rC cn 1 rfl ?_
   rw [he1, he2, he3]
   refine rC cn 2 rfl ?_
   refine oV (c9 (fZ rfl rfl) (by omega)) ?_
   refine rO cn 2 rfl ?_
   refine cN rfl ?_
   refine oV (c9 (fZ rfl rfl) (by omega)) ?_
   refine oV (ns rfl rfl) ?_
   refine aj (m8 4) V.kO  rfl .nil rfl ?_
   rintro _ _ ⟨rfl, rfl⟩
   refine rO cn 4 rfl ?_
   refine aj (Bv 0 19 (by omega)) V.BI  rfl .nil rfl ?_
   rintro _ _ ⟨p37, c37, rfl, rfl⟩
   refine rO cn 6 rfl ?_
   refine aj (K5) V.WN  rfl .nil rfl ?_
   rintro _ _ ⟨p38, rfl, rfl⟩
   refine oV (iW rfl) ?_
   refine oV (iH (ab.hC B a) _ V.cH rfl ⟨_, rfl⟩ rfl (by omega) (by omega)) ?_
   refine rO cn 5 rfl ?_
   rw [← ab.G7 B (a + 14)]
   rw [show LW bl B (a + 14) [] 0 = LW bl B (a + 14 + 3 * 0) [] 0 from rfl]
   refine cE (fun (k : Nat) => [(0, .pointer (some ⟨b, 0, none⟩)), (2, .int .i64 (ab.hL B a : Int)), (3, .int .i64 (ab.hD B a : Int)), (5, .slice p37 19 c37), (40, .slice p38 (ab.hC B a) 19), (41, .int .i64 ((ab.hC B a) : Int)), (42, .int .i64 (k : Int))]) (fun (k : Nat) => Row I3 p37 19 c37 (ab.gK B (a + 14) k) :: Row I3 p38 19 19 ab.lq :: ai b 223 [.pointer (some ⟨bl, 0, none⟩), .int .i64 sz, .int .i64 mo, .slice po no co, .bool s.ended, .int .i64 0, .int .i64 s.kind, .int .i64 (s.left : Int), .bool s.last, li, di, .int .i64 (s.aw : Int), .int .i64 (s.bA : Int)] :: LW bl B (a + 14 + 3 * k) [] 0 :: F) (fun (k : Nat) => k ≤ ab.hC B a ∧ a + 14 + 3 * k ≤ 8 * B.length) (fun (k : Nat) => ab.hC B a - k) (i1 (0) ?_ (iE (bP ln)) (sub (.cons ax (eU .nil)) ak)) ?_
   ·exact ⟨Nat.zero_le _, by omega⟩
   intro k
   rintro ⟨hk, hk2⟩
   refine rL cn 6 rfl ?_
   refine aD rfl (fun h43 => ?_) (fun h43 => ?_)
   ·refine rC cn 5 rfl ?_
    have hoo : 0 ≤ I3.g ab.lq (k : Int) ∧ I3.g ab.lq (k : Int) < 19 := ab.KI (k := k) (by omega)
    refine dO ?_
    refine oV (qM (c := (I3)) V.cH rfl rfl (by exact (own dC).take _ (by omega)) (by omega) (by omega)) ?_
    refine oV (xL V.s3 (own dC)) ?_
    refine rO cn 3 rfl ?_
    rcases (Nat.lt_or_ge (8 * B.length) ((a + 14 + 3 * k) + 3)) with hx | hx
    ·refine rC cn 6 rfl ?_
     refine oV (az V.fT rfl dJ rfl) ?_
     refine dg (fx bl B (a + 14 + 3 * k) [] 0 3 hl hB (by omega) (by omega) (by omega)) V.ef rfl (.cons dk .nil) ?_
     rintro _ _ ⟨rfl, rfl⟩
     refine (eE (cU (cU (eE (cU ?_)))))
     exact dq (ab.DC h14 ⟨hq1, hq2⟩ (by omega)) PE.end_ (aM (.cons dk .nil) ny (fun w0 h hh => bQ hh))
    ·refine rC cn 6 rfl ?_
     refine oV (az V.fT rfl dJ rfl) ?_
     refine aj (eQ bl B (a + 14 + 3 * k) [] 0 3 hl hB (by omega) (by omega)) V.ef  rfl (.cons dk .nil) rfl ?_
     rintro _ _ ⟨rfl, rfl⟩
     refine oV (xI V.cH (own dC)) ?_
     refine cA (kM (c := (I3)) (_) V.s3 rfl rfl rfl (by exact qT) (by omega) (by omega) rfl rfl) ?_
     refine iD cn 7 rfl (by omega) ?_
     rw [show (ab.gK B (a + 14) k).set (I3.g ab.lq (k : Int)).toNat (af.aJ B (a + 14 + 3 * k) 3) = ab.gK B (a + 14) (k + 1) from (ab.F7 B (a + 14) k).symm]
     rw [show a + 14 + 3 * k + 3 = a + 14 + 3 * (k + 1) from by omega]
     refine j1 (k + 1) ?_ (iE (bP ln)) (sub (.cons ax (.cons ax (.cons ax (ao .nil)))) ak)
     exact ⟨⟨by omega, by omega⟩, by omega⟩
   ·refine rC cn 5 rfl ?_
    rcases (Classical.em (ae.bb (ab.bU B a) = 0)) with hy | hy
    ·refine rC cn 1 rfl ?_
     have hkC : k = ab.hC B a := by omega
     rw [show ab.gK B (a + 14) k = ab.bU B a from by rw [hkC]; exact (ab.xP B a).symm, show a + 14 + 3 * k = ab.dp B a from by omega]
     have hta : ab.dp B a ≤ 8 * B.length := by omega
     refine rC cn 2 rfl ?_
     refine aj (kR p37 19 c37 (ab.bU B a) (Row I3 p37 19 c37 (ab.bU B a)) (ab.gV B a).symm (fun _ _ hh => tD (ab.gV B a).symm hh) hy) V.mS  rfl (ao .nil) rfl ?_
     rintro _ _ ⟨bc, rfl, rfl⟩
     refine rO cn 10 rfl ?_
     refine iP (Row I3 none 0 0 []) (Row.nil _ _ _) ?_
     refine zd (fun (l : List Int) (f : Nat) (x : Nat) (pr : Option Addr) (cr : Nat) => [(0, .pointer (some ⟨b, 0, none⟩)), (2, .int .i64 (ab.hL B a : Int)), (3, .int .i64 (ab.hD B a : Int)), (8, .pointer (some ⟨bc, 0, none⟩)), (9, .slice pr l.length cr)]) (fun (l : List Int) (f : Nat) (x : Nat) (pr : Option Addr) (cr : Nat) => Row I3 pr l.length cr l :: HC bc (ab.bU B a) :: ai b 223 [.pointer (some ⟨bl, 0, none⟩), .int .i64 sz, .int .i64 mo, .slice po no co, .bool s.ended, .int .i64 0, .int .i64 s.kind, .int .i64 (s.left : Int), .bool s.last, li, di, .int .i64 (s.aw : Int), .int .i64 (s.bA : Int)] :: LW bl B x [] 0 :: F) (fun (l : List Int) (f : Nat) (x : Nat) (pr : Option Addr) (cr : Nat) => ab.eG B (ab.bU B a) (ab.cC B a) (ab.cC B a) [] (ab.dp B a) = ab.eG B (ab.bU B a) (ab.cC B a) f l x ∧ (ab.cC B a) ≤ f + l.length ∧ l.length ≤ (ab.cC B a) ∧ x ≤ 8 * B.length) (fun (l : List Int) (f : Nat) (x : Nat) (pr : Option Addr) (cr : Nat) => (ab.cC B a) - l.length) (i5 ([]) ((ab.cC B a)) ((ab.dp B a)) (none) (0) ?_ (bP ln) (sub (aO (.cons bo (.cons bo .nil))) fV)) ?_
     ·exact ⟨rfl, Nat.le_add_right _ _, Nat.zero_le _, hta⟩
     intro l f x pr cr
     rintro ⟨hg, hf, hlt, hx⟩
     refine Uw cn 11 rfl (by omega) ?_
     refine aD rfl (fun h62 => ?_) (fun h62 => ?_)
     ·refine rC cn 3 rfl ?_
      rcases (ab.BR B (ab.bU B a) l x) with ⟨e, hs⟩ | ⟨sy, x2, e, hs, hr⟩ | ⟨sy, x2, xx, nn, x3, hs, hr⟩
      ·refine rC cn 7 rfl ?_
       refine oV (az V.fT rfl dJ rfl) ?_
       refine dg ((mz bc (ab.bU B a) bl B x [] 0 hy hl hB hx).err hs) V.pX rfl (.cons ax (.cons bo .nil)) ?_
       rintro _ _ ⟨hp, rfl⟩
       refine (cU (eE (cU (eE (cU ?_)))))
       exact dq (ab.sj h14 ⟨hq1, hq2⟩ hta hy (hg.trans (ab.om (by omega) hf (ab.se hs)))) hp (aM (.cons ax .nil) bu (fun w0 h hh => bQ hh))
      ·refine rC cn 1 rfl ?_
       have hsz := ab.pQ hy (by rw [ab.gV]; omega) hs
       rw [ab.gV] at hsz
       have hsy : 0 ≤ sy ∧ sy ≤ 18 := by omega
       have hx2 : x2 ≤ 8 * B.length := by omega
       refine rC cn 6 rfl ?_
       refine oV (az V.fT rfl dJ rfl) ?_
       refine aj ((mz bc (ab.bU B a) bl B x [] 0 hy hl hB hx).ok hs) V.pX  rfl (.cons ax (.cons bo .nil)) rfl ?_
       rintro _ _ ⟨rfl, rfl⟩
       refine oV (iW rfl) ?_
       refine dg ((I4 b bl sz mo po no co li di s B x2 sy pr cr l hsy hl hB hx2 (by omega)).err hr) V.Ml rfl (.cons dk (.cons ax (.cons ax .nil))) ?_
       rintro _ _ ⟨hp, rfl⟩
       refine (cU (eE (cU (eE (cU ?_)))))
       exact dq (ab.sj h14 ⟨hq1, hq2⟩ hta hy (hg.trans (ab.om (by omega) hf (ab.rv hs hr)))) hp (sub (ao .nil) bu)
      ·refine rC cn 1 rfl ?_
       have hsz := ab.pQ hy (by rw [ab.gV]; omega) hs
       rw [ab.gV] at hsz
       have hsy : 0 ≤ sy ∧ sy ≤ 18 := by omega
       have hx2 : x2 ≤ 8 * B.length := by omega
       have hrg := ab.wW hx2 hr
       refine rC cn 6 rfl ?_
       refine oV (az V.fT rfl dJ rfl) ?_
       refine aj ((mz bc (ab.bU B a) bl B x [] 0 hy hl hB hx).ok hs) V.pX  rfl (.cons ax (.cons bo .nil)) rfl ?_
       rintro _ _ ⟨rfl, rfl⟩
       refine oV (iW rfl) ?_
       refine aj ((I4 b bl sz mo po no co li di s B x2 sy pr cr l hsy hl hB hx2 (by omega)).ok hr) V.Ml  rfl (.cons dk (.cons ax (.cons ax .nil))) rfl ?_
       rintro _ _ ⟨rfl, rfl⟩
       refine rO cn 12 rfl ?_
       refine aj (C6 xx nn (by omega)) V.BI  rfl .nil rfl ?_
       rintro _ _ ⟨p78, c78, rfl, rfl⟩
       refine ew (c := (I3)) V.cH V.z3 rfl rfl rfl rfl dk (own aB) (by omega) rfl ?_
       intro p79 c79
       refine rO cn 3 rfl ?_
       rcases (Nat.lt_or_ge (ab.cC B a) (l.length + nn.toNat)) with hbg | hbg
       ·refine jJ cn 6 rfl (by omega) ?_
        refine oV (bS (fZ rfl rfl) (by omega)) ?_
        refine dg (kI 4) V.kO rfl .nil ?_
        rintro _ _ ⟨rfl, rfl⟩
        refine (eE (cU (eE (cU ?_))))
        exact dq (ab.sj h14 ⟨hq1, hq2⟩ hta hy (hg.trans (ab.wH (by omega) hf (ab.lO hs hr) (by rw [List.length_append, List.length_replicate]; omega)))) (PE.no (by decide)) (aM (.cons bo .nil) kv (fun w0 h hh => bQ hh))
       ·refine jJ cn 6 rfl (by omega) ?_
        refine oV (c9 (fZ rfl rfl) (by omega)) ?_
        refine aj (m8 4) V.kO  rfl .nil rfl ?_
        rintro _ _ ⟨rfl, rfl⟩
        refine rO cn 2 rfl ?_
        rw [show l.length + nn.toNat = (l ++ List.replicate nn.toNat xx).length from by rw [List.length_append, List.length_replicate]]
        have hll : (l ++ List.replicate nn.toNat xx).length = l.length + nn.toNat := by rw [List.length_append, List.length_replicate]
        refine j5 (l ++ List.replicate nn.toNat xx) (f - 1) (x3) (_) (_) ?_ (bP ln) (sub (ao (.cons dk (.cons ax (.cons ax .nil)))) bu)
        exact ⟨⟨hg.trans (ab.u0 (by omega) hf (ab.lO hs hr) (by omega)), by omega, by omega, by omega⟩, by omega⟩
     ·refine rC cn 5 rfl ?_
      rcases (ab.UO (ae.bb (l.take (ab.hL B a)) = 0) (ae.bb (l.drop (ab.hL B a)) = 0)) with ⟨hc1, hc2⟩ | ⟨hc1, hc2⟩ | hc1
      ·refine rC cn 1 rfl ?_
       have hlt : l.length = ab.cC B a := by omega
       have hz := hg.trans (ab.lS (B := B) (c := ab.bU B a) (f := f) (a := x) (show ab.cC B a ≤ l.length by omega))
       refine vO (p := pr) (n := l.length) (cap := cr) (l := l) (c := I3) aB fun hcap => ?_
       refine jg [pz 0 [] [0], pz 0 [] [0], pz 0 [] [9], pz 0 [] [2], pz 12 [2, 3] [], pz 28 [4] [], pz 0 [] [9], pz 0 [] [2], pz 192 [6, 7] [], pz 508 [8] [], pz 1021 [0] [], pz 2045 [10] [], pz 4093 [11, 5] [], pz 8191 [1] [], pz 16383 [13] [], pz 32767 [14, 9] []] [⟨fun y => Row I3 pr l.length cr l, none, some 5, []⟩, ⟨fun y => HC bc (ab.bU B a), none, none, []⟩, ⟨fun y => ai b 223 [.pointer (some ⟨bl, 0, none⟩), .int .i64 sz, .int .i64 mo, .slice po no co, .bool s.ended, .int .i64 0, .int .i64 s.kind, .int .i64 (s.left : Int), .bool s.last, li, di, .int .i64 (s.aw : Int), .int .i64 (s.bA : Int)], none, some 12, []⟩, ⟨fun y => LW bl B x [] 0, none, none, []⟩, ⟨fun y => HC (fo (y 5)) (l.take (ab.hL B a)), some 5, none, []⟩, ⟨fun y => Row I3 pr l.length cr l, some 5, some 9, []⟩, ⟨fun y => HC (fo (y 9)) (l.drop (ab.hL B a)), some 9, none, []⟩, ⟨fun y => Row I3 pr l.length cr l, some 9, none, []⟩, ⟨fun y => ai b 223 [.pointer (some ⟨bl, 0, none⟩), .int .i64 sz, .int .i64 mo, .slice po no co, .bool s.ended, .int .i64 0, .int .i64 s.kind, .int .i64 (s.left : Int), .bool s.last, .pointer (some ⟨fo (y 5), 0, none⟩), di, .int .i64 (s.aw : Int), .int .i64 (s.bA : Int)], some 12, some 15, []⟩, ⟨fun y => ai b 223 [.pointer (some ⟨bl, 0, none⟩), .int .i64 sz, .int .i64 mo, .slice po no co, .bool s.ended, .int .i64 0, .int .i64 s.kind, .int .i64 (s.left : Int), .bool s.last, .pointer (some ⟨fo (y 5), 0, none⟩), .pointer (some ⟨fo (y 9), 0, none⟩), .int .i64 (s.aw : Int), .int .i64 (s.bA : Int)], some 15, none, []⟩] F V.mixed (by kernel_rfl) rfl (fun _ => .refl _) (aS _ (aS _ (aS _ (aS _ (cI _ rfl (by intro y y2 h; simp only [h 5 (.inl rfl)]) (cI _ rfl (by intro y y2 h; rfl) (cI _ rfl (by intro y y2 h; simp only [h 9 (.inl rfl)]) (cI _ rfl (by intro y y2 h; rfl) (cI _ rfl (by intro y y2 h; simp only [h 5 (.inr (by decide))]) (cI _ rfl (by intro y y2 h; simp only [h 5 (.inr (by decide)), h 9 (.inr (by decide))]) fg)))))))))) ?_
       iterate 4 refine nM ?_
       refine nV (fun y hA L => iH (ab.hL B a) _ V.cH rfl ⟨_, rfl⟩ rfl (by omega) (by omega)) ?_
       refine ek (fun y v => .pointer (some ⟨fo v, 0, none⟩)) (fun y v => True) _ _ (fun y v => [HC (fo v) (l.take (ab.hL B a)), Row I3 pr l.length cr l]) _ (fun y => rfl) (fun y => rfl) (fun y => rfl) (fun y => rfl) (fun y FF hA => nU (A := fun z => HC z (l.take (ab.hL B a))) (Post := [Row I3 pr l.length cr l]) (kR pr (ab.hL B a) cr (l.take (ab.hL B a)) (Row I3 pr l.length cr l) (by (rw [List.length_take]; omega)) (fun _ _ hh => nL rfl (by omega) hh) hc1) V.mS rfl (ao .nil)) (by intros; rfl) (by intros; rfl) (by intros; rfl) (by intro y y2 h; simp only [h 5 (.inl rfl)]) (by intro y y2 h; rfl) ?_
       iterate 2 refine nM ?_
       refine nV (fun y hA L => eh (ab.hL B a) _ _ V.cH rfl ⟨_, rfl⟩ ⟨rfl, rfl⟩ rfl (by omega) (by omega) (by omega)) ?_
       refine ek (fun y v => .pointer (some ⟨fo v, 0, none⟩)) (fun y v => True) _ _ (fun y v => [HC (fo v) (l.drop (ab.hL B a)), Row I3 pr l.length cr l]) _ (fun y => rfl) (fun y => rfl) (fun y => rfl) (fun y => rfl) (fun y FF hA => nU (A := fun z => HC z (l.drop (ab.hL B a))) (Post := [Row I3 pr l.length cr l]) (kR (dG pr (ab.hL B a) cr 1) (l.length - (ab.hL B a)) (cr - (ab.hL B a)) (l.drop (ab.hL B a)) (Row I3 pr l.length cr l) (by rw [List.length_drop]) (fun _ _ hh => yD rfl (by omega) hcap hh) hc2) V.mS rfl (ao .nil)) (by intros; rfl) (by intros; rfl) (by intros; rfl) (by intro y y2 h; simp only [h 9 (.inl rfl)]) (by intro y y2 h; rfl) ?_
       refine nN ?_
       refine nG V.xa ?_
       refine nE (fun y FF hA => de (dD V.yA rfl rfl rfl (by exact fO) (by exact Nat.le_of_ble_eq_true rfl) rfl) ⟨rfl, .refl _⟩) ?_
       refine nN ?_
       refine nG V.uS ?_
       refine nE (fun y FF hA => de (dD V.yA rfl rfl rfl (by exact fO) (by exact Nat.le_of_ble_eq_true rfl) rfl) ⟨rfl, .refl _⟩) ?_
       refine cQ ?_
       intro y hA
       clear hA
       refine bj ?_
       refine bD _ (.cons (d := 9) rfl (.nil _)) ?_
       refine a7 (M := HC bc (ab.bU B a) :: LW bl B x [] 0 :: HC (fo (y 5)) (l.take (ab.hL B a)) :: HC (fo (y 9)) (l.drop (ab.hL B a)) :: Row I3 pr l.length cr l :: ai b 223 [.pointer (some ⟨bl, 0, none⟩), .int .i64 sz, .int .i64 mo, .slice po no co, .bool s.ended, .int .i64 0, .int .i64 s.kind, .int .i64 (s.left : Int), .bool s.last, .pointer (some ⟨fo (y 5), 0, none⟩), .pointer (some ⟨fo (y 9), 0, none⟩), .int .i64 (s.aw : Int), .int .i64 (s.bA : Int)] :: F) (fun _ _ h => h) ?_
       generalize (fo (y 5)) = q92
       generalize (fo (y 9)) = q96
       rcases (Classical.em (l.getD 256 0 = 0)) with hend | hend
       ·have hnn := ab.Aw hc1 256
        rw [ab.getD_take (show 256 < ab.hL B a by omega)] at hnn
        refine rC cn 2 rfl ?_
        refine oV (xI V.cH (own jK)) ?_
        refine oV (xL V.s3 (own jK)) ?_
        refine oV (bS (ed rfl rfl) (by rw [show I3.g l 256 = l.getD 256 0 from rfl]; omega)) ?_
        refine dg (kI 4) V.kO rfl .nil ?_
        rintro _ _ ⟨rfl, rfl⟩
        skip
        exact dq (ab.tw h14 ⟨hq1, hq2⟩ hta hy hz (.inr (.inr hend))) (PE.no (by decide)) (aM (.cons jF .nil) I0 (fun w0 h hh => bQ hh))
       ·have hnn := ab.Aw hc1 256
        rw [ab.getD_take (show 256 < ab.hL B a by omega)] at hnn
        refine rC cn 2 rfl ?_
        refine oV (xI V.cH (own jK)) ?_
        refine oV (xL V.s3 (own jK)) ?_
        refine oV (c9 (ed rfl rfl) (by rw [show I3.g l 256 = l.getD 256 0 from rfl]; omega)) ?_
        refine aj (m8 4) V.kO  rfl .nil rfl ?_
        rintro _ _ ⟨rfl, rfl⟩
        refine c4 ?_
        exact gr (ab.E5 h14 ⟨hq1, hq2⟩ hta hy hz hc1 hc2 hend) eH ⟨_, _, rfl, rfl⟩ (sub (.cons jF (.cons ax (.cons ax (.cons ax .nil)))) fV)
      ·refine rC cn 1 rfl ?_
       have hlt : l.length = ab.cC B a := by omega
       have hz := hg.trans (ab.lS (B := B) (c := ab.bU B a) (f := f) (a := x) (show ab.cC B a ≤ l.length by omega))
       refine vO (p := pr) (n := l.length) (cap := cr) (l := l) (c := I3) aB fun hcap => ?_
       refine jg [pz 0 [] [0], pz 0 [] [0], pz 0 [] [9], pz 0 [] [2], pz 12 [2, 3] [], pz 28 [4] [], pz 0 [] [9], pz 0 [] [2], pz 192 [6, 7] [], pz 508 [8] [], pz 1021 [0] [], pz 2045 [10] [], pz 4093 [11, 5] [], pz 8191 [1] [], pz 16383 [13] [], pz 32767 [14, 9] []] [⟨fun y => Row I3 pr l.length cr l, none, some 5, []⟩, ⟨fun y => HC bc (ab.bU B a), none, none, []⟩, ⟨fun y => ai b 223 [.pointer (some ⟨bl, 0, none⟩), .int .i64 sz, .int .i64 mo, .slice po no co, .bool s.ended, .int .i64 0, .int .i64 s.kind, .int .i64 (s.left : Int), .bool s.last, li, di, .int .i64 (s.aw : Int), .int .i64 (s.bA : Int)], none, none, [9]⟩, ⟨fun y => LW bl B x [] 0, none, none, []⟩, ⟨fun y => HC (fo (y 5)) (l.take (ab.hL B a)), some 5, none, []⟩, ⟨fun y => Row I3 pr l.length cr l, some 5, none, [9]⟩] F V.mixed (by kernel_rfl) rfl (fun _ => .refl _) (aS _ (aS _ (aS _ (aS _ (cI _ rfl (by intro y y2 h; simp only [h 5 (.inl rfl)]) (cI _ rfl (by intro y y2 h; rfl) fg)))))) ?_
       iterate 4 refine nM ?_
       refine nV (fun y hA L => iH (ab.hL B a) _ V.cH rfl ⟨_, rfl⟩ rfl (by omega) (by omega)) ?_
       refine ek (fun y v => .pointer (some ⟨fo v, 0, none⟩)) (fun y v => True) _ _ (fun y v => [HC (fo v) (l.take (ab.hL B a)), Row I3 pr l.length cr l]) _ (fun y => rfl) (fun y => rfl) (fun y => rfl) (fun y => rfl) (fun y FF hA => nU (A := fun z => HC z (l.take (ab.hL B a))) (Post := [Row I3 pr l.length cr l]) (kR pr (ab.hL B a) cr (l.take (ab.hL B a)) (Row I3 pr l.length cr l) (by (rw [List.length_take]; omega)) (fun _ _ hh => nL rfl (by omega) hh) hc1) V.mS rfl (ao .nil)) (by intros; rfl) (by intros; rfl) (by intros; rfl) (by intro y y2 h; simp only [h 5 (.inl rfl)]) (by intro y y2 h; rfl) ?_
       iterate 2 refine nM ?_
       refine nV (fun y hA L => eh (ab.hL B a) _ _ V.cH rfl ⟨_, rfl⟩ ⟨rfl, rfl⟩ rfl (by omega) (by omega) (by omega)) ?_
       refine aU (undef) _ _ (fun y => rfl) rfl (fun y => rfl) (fun y FF hA => fc (um (dG pr (ab.hL B a) cr 1) (l.length - (ab.hL B a)) (cr - (ab.hL B a)) (l.drop (ab.hL B a)) (Row I3 pr l.length cr l) (by rw [List.length_drop]) (fun _ _ hh => yD rfl (by omega) hcap hh) hc2) V.mS rfl (.cons ax .nil) (by rintro _ _ ⟨hp, rfl⟩; exact kr (ab.tw h14 ⟨hq1, hq2⟩ hta hy hz (.inr (.inl hc2))) hp (aM (ao .nil) (by exact vx (M := FF) (F := F)) (fun w0 h hh => bQ hh)))) ?_
       refine aU (.bool true) _ _ (fun y => rfl) rfl (fun y => rfl) (fun y FF hA => (cL.fact (hA 9 (by decide)) (q := fun _ => False) rfl).elim) ?_
       refine aU (.bool true) _ _ (fun y => rfl) rfl (fun y => rfl) (fun y FF hA => (cL.fact (hA 9 (by decide)) (q := fun _ => False) rfl).elim) ?_
       refine aU (.bool true) _ _ (fun y => rfl) rfl (fun y => rfl) (fun y FF hA => (cL.fact (hA 9 (by decide)) (q := fun _ => False) rfl).elim) ?_
       refine aU (.bool true) _ _ (fun y => rfl) rfl (fun y => rfl) (fun y FF hA => (cL.fact (hA 9 (by decide)) (q := fun _ => False) rfl).elim) ?_
       refine aU (.bool true) _ _ (fun y => rfl) rfl (fun y => rfl) (fun y FF hA => (cL.fact (hA 9 (by decide)) (q := fun _ => False) rfl).elim) ?_
       refine aU (.bool true) _ _ (fun y => rfl) rfl (fun y => rfl) (fun y FF hA => (cL.fact (hA 9 (by decide)) (q := fun _ => False) rfl).elim) ?_
       refine cQ ?_
       intro y hA
       exact (cL.fact (hA 9 (by exact Nat.le_of_ble_eq_true rfl)) (q := fun _ => False) rfl).elim
      ·refine rC cn 1 rfl ?_
       have hlt : l.length = ab.cC B a := by omega
       have hz := hg.trans (ab.lS (B := B) (c := ab.bU B a) (f := f) (a := x) (show ab.cC B a ≤ l.length by omega))
       refine vO (p := pr) (n := l.length) (cap := cr) (l := l) (c := I3) aB fun hcap => ?_
       refine wN [pz 0 [] [0], pz 0 [] [0], pz 0 [] [9], pz 0 [] [2], pz 12 [2, 3] [], pz 28 [4] [], pz 0 [] [9], pz 0 [] [2], pz 192 [6, 7] [], pz 508 [8] [], pz 1021 [0] [], pz 2045 [10] [], pz 4093 [11, 5] [], pz 8191 [1] [], pz 16383 [13] [], pz 32767 [14, 9] []] [⟨fun y => Row I3 pr l.length cr l, none, none, [5]⟩, ⟨fun y => HC bc (ab.bU B a), none, none, []⟩, ⟨fun y => ai b 223 [.pointer (some ⟨bl, 0, none⟩), .int .i64 sz, .int .i64 mo, .slice po no co, .bool s.ended, .int .i64 0, .int .i64 s.kind, .int .i64 (s.left : Int), .bool s.last, li, di, .int .i64 (s.aw : Int), .int .i64 (s.bA : Int)], none, none, [5]⟩, ⟨fun y => LW bl B x [] 0, none, none, []⟩] F V.mixed ?_
       iterate 4 refine nM ?_
       refine nV (fun y hA L => iH (ab.hL B a) _ V.cH rfl ⟨_, rfl⟩ rfl (by omega) (by omega)) ?_
       refine aU (undef) _ _ (fun y => rfl) rfl (fun y => rfl) (fun y FF hA => fc (um pr (ab.hL B a) cr (l.take (ab.hL B a)) (Row I3 pr l.length cr l) (by (rw [List.length_take]; omega)) (fun _ _ hh => nL rfl (by omega) hh) hc1) V.mS rfl (ao .nil) (by rintro _ _ ⟨hp, rfl⟩; exact kr (ab.tw h14 ⟨hq1, hq2⟩ hta hy hz (.inl hc1)) hp (aM (ao .nil) (by exact vx (M := FF) (F := F)) (fun w0 h hh => bQ hh)))) ?_
       iterate 2 refine nM ?_
       refine nV (fun y hA L => eh (ab.hL B a) _ _ V.cH rfl ⟨_, rfl⟩ ⟨rfl, rfl⟩ rfl (by omega) (by omega) (by omega)) ?_
       refine aU (.bool true) _ _ (fun y => rfl) rfl (fun y => rfl) (fun y FF hA => (cL.fact (hA 5 (by decide)) (q := fun _ => False) rfl).elim) ?_
       refine aU (.bool true) _ _ (fun y => rfl) rfl (fun y => rfl) (fun y FF hA => (cL.fact (hA 5 (by decide)) (q := fun _ => False) rfl).elim) ?_
       refine aU (.bool true) _ _ (fun y => rfl) rfl (fun y => rfl) (fun y FF hA => (cL.fact (hA 5 (by decide)) (q := fun _ => False) rfl).elim) ?_
       refine aU (.bool true) _ _ (fun y => rfl) rfl (fun y => rfl) (fun y FF hA => (cL.fact (hA 5 (by decide)) (q := fun _ => False) rfl).elim) ?_
       refine aU (.bool true) _ _ (fun y => rfl) rfl (fun y => rfl) (fun y FF hA => (cL.fact (hA 5 (by decide)) (q := fun _ => False) rfl).elim) ?_
       refine aU (.bool true) _ _ (fun y => rfl) rfl (fun y => rfl) (fun y FF hA => (cL.fact (hA 5 (by decide)) (q := fun _ => False) rfl).elim) ?_
       refine aU (.bool true) _ _ (fun y => rfl) rfl (fun y => rfl) (fun y FF hA => (cL.fact (hA 5 (by decide)) (q := fun _ => False) rfl).elim) ?_
       refine cQ ?_
       intro y hA
       exact (cL.fact (hA 5 (by exact Nat.le_of_ble_eq_true rfl)) (q := fun _ => False) rfl).elim
    ·refine rC cn 1 rfl ?_
     have hkC : k = ab.hC B a := by omega
     rw [show ab.gK B (a + 14) k = ab.bU B a from by rw [hkC]; exact (ab.xP B a).symm, show a + 14 + 3 * k = ab.dp B a from by omega]
     have hta : ab.dp B a ≤ 8 * B.length := by omega
     refine rC cn 2 rfl ?_
     refine dg (um p37 19 c37 (ab.bU B a) (Row I3 p37 19 c37 (ab.bU B a)) (ab.gV B a).symm (fun _ _ hh => tD (ab.gV B a).symm hh) hy) V.mS rfl (ao .nil) ?_
     rintro _ _ ⟨hp, rfl⟩
     refine (cU ?_)
     exact dq (ab.CM h14 ⟨hq1, hq2⟩ hta hy) hp (aM (.cons ax .nil) fV (fun w0 h hh => bQ hh))
  ·refine rC cn 1 rfl ?_
   rw [he1, he2, he3]
   refine rC cn 2 rfl ?_
   refine oV (c9 (fZ rfl rfl) (by omega)) ?_
   refine rO cn 2 rfl ?_
   refine cN rfl ?_
   refine oV (bS (fZ rfl rfl) (by omega)) ?_
   refine oV (ns rfl rfl) ?_
   refine dg (kI 4) V.kO rfl .nil ?_
   rintro _ _ ⟨rfl, rfl⟩
   refine (cU ?_)
   exact dq (ab.yf h14 (by omega)) (PE.no (by decide)) (aM (ao .nil) bu (fun w0 h hh => bQ hh))
  ·refine rC cn 1 rfl ?_
   rw [he1, he2, he3]
   refine rC cn 2 rfl ?_
   refine oV (bS (fZ rfl rfl) (by omega)) ?_
   refine rO cn 4 rfl ?_
   refine dg (kI 4) V.kO rfl .nil ?_
   rintro _ _ ⟨rfl, rfl⟩
   refine (cU ?_)
   exact dq (ab.yf h14 (by omega)) (PE.no (by decide)) (aM (ao .nil) bu (fun w0 h hh => bQ hh))
end Go.Proofs.YtmaiakpjgomnpaaGreat
namespace Go.Sl
def CD (li di : Value) (s : ab.St) : ad := fun w0 h => s.kind ≤ 0 ∨ ∃ l d, li = .pointer (some ⟨l, 0, none⟩) ∧ di = .pointer (some ⟨d, 0, none⟩) ∧ bZ w0 [HC l s.lits, HC d s.dH] h
structure Pv where
  li : Value
  di : Value
def MM (b bl : Nat) (sz mo : Int) (B : List Int) (s : ab.St) : ad := fun w0 h => ∃ i : Pv, True ∧ bZ w0 [MS b bl sz mo i.li i.di s, LW bl B s.at_ [] 0, CD i.li i.di s] h
theorem ve {w0 : World} {Bs : List ad} {A : ad} {h : Hp} (hA : ∀ h, bZ w0 Bs h → A w0 h) (hh : bZ w0 Bs h) : bZ w0 [A] h := ⟨h, fun _ => none, fun _ => .inr rfl, Hp.le_refl _, (fun _ _ e => by cases e), hA h hh, trivial⟩
theorem n5 {w0 : World} {X : ad} {L L' : List ad} {h : Hp} (k : ∀ h, bZ w0 L h → bZ w0 L' h) (hh : bZ w0 (X :: L) h) : bZ w0 (X :: L') h := by
  obtain ⟨h1, h2, a, b, c, d, e⟩ := hh
  exact ⟨h1, h2, a, b, c, d, k h2 e⟩
theorem mL {b bl : Nat} {sz mo : Int} {B : List Int} {s : ab.St} {li di : Value} {w0 : World} {h : Hp} (hk : s.kind ≤ 0) (hh : bZ w0 [MS b bl sz mo li di s, LW bl B s.at_ [] 0] h) : MM b bl sz mo B s w0 h :=
  ⟨⟨li, di⟩, trivial, n5 (fun h hh => n5 (fun h hh => ve (fun h _ => .inl hk) hh) hh) hh⟩
theorem k9 {b bl l d : Nat} {sz mo : Int} {B : List Int} {s : ab.St} {w0 : World} {h : Hp} (hh : bZ w0 [MS b bl sz mo (.pointer (some ⟨l, 0, none⟩)) (.pointer (some ⟨d, 0, none⟩)) s, LW bl B s.at_ [] 0, HC l s.lits, HC d s.dH] h) : MM b bl sz mo B s w0 h :=
  ⟨⟨_, _⟩, trivial, n5 (fun h hh => n5 (fun h hh => ve (fun h hh => .inr ⟨l, d, rfl, rfl, hh⟩) hh) hh) hh⟩
theorem fm {b bl : Nat} {sz mo : Int} {B : List Int} {s : ab.St} {li di : Value} {w0 : World} {h : Hp} (hh : bZ w0 [MS b bl sz mo li di s, LW bl B s.at_ [] 0, CD li di s] h) : MM b bl sz mo B s w0 h := ⟨⟨li, di⟩, trivial, hh⟩
theorem zr {li di : Value} {s : ab.St} {w0 : World} {h : Hp} (hk : 0 < s.kind) (hh : CD li di s w0 h) : ∃ i : Nat × Nat, (li = .pointer (some ⟨i.1, 0, none⟩) ∧ di = .pointer (some ⟨i.2, 0, none⟩)) ∧ bZ w0 [HC i.1 s.lits, HC i.2 s.dH] h := by
  rcases hh with hh | ⟨l, d, h1, h2, h3⟩
  · exact absurd hk (by omega)
  · exact ⟨(l, d), ⟨h1, h2⟩, h3⟩
theorem aA.fold {P : Program} {f : FuncId} {args : List Value} {A : ad} {Bs : List ad} {Post : Ending → List ad → Prop} (h : aA P f args [A] Post) (hA : ∀ w0 h, bZ w0 Bs h → A w0 h) : aA P f args Bs Post := fun w0 F w hi => h w0 F w (hi.cls (hA w0))
end Go.Sl
