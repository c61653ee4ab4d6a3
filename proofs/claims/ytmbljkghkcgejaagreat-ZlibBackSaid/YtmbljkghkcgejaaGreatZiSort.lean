/- Walks of functions that the law reaches, and what they lean on; no conditions. -/
import Derived.Test.YtmbljkghkcgejaaGreatM30
import Derived.Test.YtmbljkghkcgejaaGreatSl22
import Derived.KernelRfl
import Derived.Test.YtmbljkghkcgejaaGreatM32
import Derived.Test.YtmbljkghkcgejaaGreatSl20
import Derived.Test.YtmbljkghkcgejaaGreatM35
set_option linter.unusedVariables false
set_option linter.unusedSimpArgs false
set_option maxRecDepth 100000
namespace Go.Proofs.YtmbljkghkcgejaaGreat
open Go.Sl 
theorem aA : dJ Tryz.prog ⟨[77], []⟩ = true := by kernel_rfl
theorem nw (p : Option Addr) (n cap : Nat) (fv : Value) (P A B C Z : List Int) (a b k0 : Int) (ha : a = P.length) (hbb : b = (P.length + A.length + B.length : Nat)) (hk0 : k0 = A.length) (hC : C.length = A.length) (hn : P.length + A.length + B.length + A.length + Z.length = n) (hn2 : n ≤ 1000000) : aD Tryz.prog 134 [.slice p n cap, .int .i64 a, .int .i64 b, .int .i64 k0, fv] [Row I3 p n cap (P ++ A ++ B ++ C ++ Z)] (aK fun v G => v = .tuple #[] ∧ G = [Row I3 p n cap (P ++ C ++ B ++ A ++ Z)]) := by
 refine ax [(0, _), (1, _), (2, _), (3, _), (4, _)] Tryz.func134 rfl Tryz.ntmps134 rfl rfl ?_
 intro w0 F
 refine rT aA 6 rfl ?_
 rw [show P ++ A ++ B ++ C ++ Z = P ++ (C.take 0 ++ A.drop 0) ++ B ++ (A.take 0 ++ C.drop 0) ++ Z by simp]
 refine cx (fun (k : Nat) => [(0, .slice p n cap), (1, .int .i64 a), (2, .int .i64 b), (3, .int .i64 k0), (10, .int .i64 (k : Int))]) (fun (k : Nat) => Row I3 p n cap (P ++ (C.take k ++ A.drop k) ++ B ++ (A.take k ++ C.drop k) ++ Z) :: F) (fun (k : Nat) => k ≤ A.length) (fun (k : Nat) => A.length - k) (i1 (0) ?_ (aX ln) (sub (au .nil) ao)) ?_
 ·exact Nat.zero_le _
 intro k
 rintro hk
 refine rL aA 8 rfl ?_
 refine aj rfl (fun h13 => ?_) (fun h13 => ?_)
 ·refine rC aA 4 rfl ?_
  refine wN [pz 0 [] [0], pz 0 [] [1], pz 0 [] [10], pz 6 [1, 2] [], pz 0 [] [0], pz 0 [] [2], pz 0 [] [10], pz 96 [5, 6] [], pz 0 [] [0], pz 0 [] [2], pz 0 [] [10], pz 1536 [9, 10] [], pz 3840 [8, 11] [], pz 7936 [12] [], pz 0 [] [0], pz 0 [] [1], pz 0 [] [10], pz 98304 [15, 16] [], pz 245760 [14, 17] [], pz 507904 [18] [], pz 1048335 [0, 3] [], pz 2096911 [20, 13] [], pz 4194303 [4, 7] [], pz 8388607 [22, 19] []] [⟨fun y => Row I3 p n cap (P ++ (C.take k ++ A.drop k) ++ B ++ (A.take k ++ C.drop k) ++ Z), none, some 21, [12, 13, 18, 19, 20]⟩, ⟨fun y => Row I3 p n cap ((P ++ (C.take k ++ A.drop k) ++ B ++ (A.take k ++ C.drop k) ++ Z).set (a + (k : Int)).toNat ((I3).g (P ++ (C.take k ++ A.drop k) ++ B ++ (A.take k ++ C.drop k) ++ Z) (b + (k : Int)))), some 21, some 23, [22]⟩, ⟨fun y => Row I3 p n cap (((P ++ (C.take k ++ A.drop k) ++ B ++ (A.take k ++ C.drop k) ++ Z).set (a + (k : Int)).toNat ((I3).g (P ++ (C.take k ++ A.drop k) ++ B ++ (A.take k ++ C.drop k) ++ Z) (b + (k : Int)))).set (b + (k : Int)).toNat ((I3).g (P ++ (C.take k ++ A.drop k) ++ B ++ (A.take k ++ C.drop k) ++ Z) (a + (k : Int)))), some 23, none, []⟩] F V.mixed ?_
  iterate 3 refine nM ?_
  refine nV (fun y hA L => bU rfl rfl wI) ?_
  iterate 3 refine nM ?_
  refine nV (fun y hA L => bU rfl rfl wI) ?_
  iterate 3 refine nM ?_
  refine nV (fun y hA L => bU rfl rfl wI) ?_
  refine nR (fun y FF hA => xI V.aF (own ak)) ?_
  refine nR (fun y FF hA => xL V.s3 (own ak)) ?_
  iterate 3 refine nM ?_
  refine nV (fun y hA L => bU rfl rfl wI) ?_
  refine nR (fun y FF hA => xI V.aF (own ak)) ?_
  refine nR (fun y FF hA => xL V.s3 (own ak)) ?_
  refine nR (fun y FF hA => xI V.aF (own ak)) ?_
  refine nE (fun y FF hA => cu (eb (c := (I3)) (_) V.s3 rfl rfl rfl (by exact dO) (by omega) (by omega) rfl rfl) ⟨rfl, .refl _⟩) ?_
  refine nR (fun y FF hA => xI V.aF (own ak)) ?_
  refine nE (fun y FF hA => cu (eb (c := (I3)) (_) V.s3 rfl rfl rfl (by exact dO) (by omega) (by omega) rfl rfl) ⟨rfl, .refl _⟩) ?_
  refine aM ?_
  intro y hA
  clear hA
  show jD _ _ _ _ (Row I3 p n cap (((P ++ (C.take k ++ A.drop k) ++ B ++ (A.take k ++ C.drop k) ++ Z).set (a + (k : Int)).toNat ((I3).g (P ++ (C.take k ++ A.drop k) ++ B ++ (A.take k ++ C.drop k) ++ Z) (b + (k : Int)))).set (b + (k : Int)).toNat ((I3).g (P ++ (C.take k ++ A.drop k) ++ B ++ (A.take k ++ C.drop k) ++ Z) (a + (k : Int)))) :: F)
  refine gR ?_
  refine bp ?_
  refine aW ?_
  refine oV (aB rfl) ?_
  refine oV (bU rfl rfl wI) ?_
  refine oV (cE rfl) ?_
  refine bC ?_
  have e1 : (a + (k : Int)).toNat = P.length + k := by omega
  have e2 : (b + (k : Int)).toNat = P.length + A.length + B.length + k := by omega
  simp only [Ec.g, e1, e2]
  rw [aV.r5 (by omega) hC]
  refine j1 (k + 1) ?_ (aX ln) (sub (au .nil) ao)
  exact ⟨by omega, by omega⟩
 ·refine rC aA 4 rfl ?_
  have hke : k = A.length := by omega
  subst hke
  rw [show P ++ (C.take A.length ++ A.drop A.length) ++ B ++ (A.take A.length ++ C.drop A.length) ++ Z = P ++ C ++ B ++ A ++ Z by rw [List.drop_length, List.take_length, ← hC, List.take_length, List.drop_length]; simp]
  exact dT dN ⟨rfl, rfl⟩ (sub (au .nil) ao)
theorem CP (p : Option Addr) (n cap : Nat) (fv : Value) (P X Y Z : List Int) (a m b : Int) (ha : a = P.length) (hm : m = (P.length + X.length : Nat)) (hbb : b = (P.length + X.length + Y.length : Nat)) (hX : 0 < X.length) (hY : 0 < Y.length) (hn : P.length + X.length + Y.length + Z.length = n) (hn2 : n ≤ 1000000) : aD Tryz.prog 131 [.slice p n cap, .int .i64 a, .int .i64 m, .int .i64 b, fv] [Row I3 p n cap (P ++ X ++ Y ++ Z)] (aK fun v G => v = .tuple #[] ∧ G = [Row I3 p n cap (P ++ Y ++ X ++ Z)]) := by
 refine ax [(0, _), (1, _), (2, _), (3, _), (4, _)] Tryz.func131 rfl Tryz.ntmps131 rfl rfl ?_
 intro w0 F
 refine rZ aA 18 rfl (by omega) ?_
 rw [show m - a = (X.length : Int) by omega, show b - m = (Y.length : Int) by omega]
 refine kW (fun (P2 : List Int) (X2 : List Int) (Y2 : List Int) (Z2 : List Int) => [(0, .slice p n cap), (2, .int .i64 m), (4, fv), (10, .int .i64 (X2.length : Int)), (11, .int .i64 (Y2.length : Int))]) (fun (P2 : List Int) (X2 : List Int) (Y2 : List Int) (Z2 : List Int) => Row I3 p n cap (P2 ++ X2 ++ Y2 ++ Z2) :: F) (fun (P2 : List Int) (X2 : List Int) (Y2 : List Int) (Z2 : List Int) => P2 ++ Y2 ++ X2 ++ Z2 = P ++ Y ++ X ++ Z ∧ m = (P2.length + X2.length : Nat) ∧ 0 < X2.length ∧ 0 < Y2.length ∧ P2.length + X2.length + Y2.length + Z2.length = n) (fun (P2 : List Int) (X2 : List Int) (Y2 : List Int) (Z2 : List Int) => X2.length + Y2.length) (i4 (P) (X) (Y) (Z) ?_ (aX ln) (sub (au .nil) ao)) ?_
 ·exact ⟨rfl, hm, hX, hY, hn⟩
 intro P2 X2 Y2 Z2
 rintro ⟨hT, hm2, hX2, hY2, hn3⟩
 refine rL aA 8 rfl ?_
 refine aj rfl (fun h20 => ?_) (fun h20 => ?_)
 ·refine rC aA 10 rfl ?_
  refine aj rfl (fun h23 => ?_) (fun h23 => ?_)
  ·refine rC aA 1 rfl ?_
   obtain ⟨A, B, hX2, hA⟩ : ∃ A B, X2 = A ++ B ∧ A.length = Y2.length := ⟨X2.take Y2.length, X2.drop Y2.length, by simp, by simp; omega⟩
   subst hX2
   rw [← List.append_assoc P2 A B]
   refine cy aA 8 rfl (by omega) ?_
   refine ai (nw p n cap _ P2 A B Y2 Z2 _ _ _ (by omega) (by (simp only [List.length_append, List.length_nil] at *; omega)) (by omega) (by omega) (by (simp only [List.length_append, List.length_nil] at *; omega)) hn2) V.Ew  rfl (au .nil) rfl ?_
   rintro _ _ ⟨rfl, rfl⟩
   refine bN aA 9 rfl (by omega) ?_
   (rw [show (((A ++ B).length : Nat) : Int) - (Y2.length : Int) = (B.length : Int) by simp only [List.length_append]; omega, show (Y2.length : Int) = (A.length : Int) by omega]; simp only [List.length_append] at *; exact j4 (y0 := P2 ++ Y2) (y1 := B) (y2 := A) (y3 := Z2) ⟨⟨by rw [← hT]; simp, by simp only [List.length_append]; omega, by omega, by omega, by simp only [List.length_append]; omega⟩, by omega⟩ (aX ln) (sub (au .nil) ao))
  ·refine rC aA 1 rfl ?_
   obtain ⟨B, C2, hY2, hC2⟩ : ∃ B C2, Y2 = B ++ C2 ∧ C2.length = X2.length := ⟨Y2.take (Y2.length - X2.length), Y2.drop (Y2.length - X2.length), by simp, by simp; omega⟩
   subst hY2
   rw [← List.append_assoc (P2 ++ X2) B C2]
   refine cy aA 12 rfl (by omega) ?_
   refine ai (nw p n cap _ P2 X2 B C2 Z2 _ _ _ (by omega) (by (simp only [List.length_append, List.length_nil] at *; omega)) (by omega) (by omega) (by (simp only [List.length_append, List.length_nil] at *; omega)) hn2) V.Ew  rfl (au .nil) rfl ?_
   rintro _ _ ⟨rfl, rfl⟩
   refine bN aA 9 rfl (by omega) ?_
   (rw [show (((B ++ C2).length : Nat) : Int) - (X2.length : Int) = (B.length : Int) by simp only [List.length_append]; omega, show (X2.length : Int) = (C2.length : Int) by omega, List.append_assoc (P2 ++ C2 ++ B) X2 Z2]; simp only [List.length_append] at *; exact j4 (y0 := P2) (y1 := C2) (y2 := B) (y3 := X2 ++ Z2) ⟨⟨by rw [← hT]; simp, by omega, by omega, by omega, by simp only [List.length_append]; omega⟩, by omega⟩ (aX ln) (sub (au .nil) ao))
 ·refine rC aA 5 rfl ?_
  rw [show P2 ++ X2 ++ Y2 ++ Z2 = P2 ++ X2 ++ [] ++ Y2 ++ Z2 by simp]
  refine cy aA 8 rfl (by omega) ?_
  refine ai (nw p n cap _ P2 X2 [] Y2 Z2 _ _ _ (by omega) (by omega) (by omega) (by omega) (by (simp only [List.length_append, List.length_nil] at *; omega)) hn2) V.Ew  rfl (au .nil) rfl ?_
  rintro _ _ ⟨rfl, rfl⟩
  refine bC ?_
  rw [show P2 ++ Y2 ++ [] ++ X2 ++ Z2 = P ++ Y ++ X ++ Z by rw [List.append_nil]; exact hT]
  exact dT dN ⟨rfl, rfl⟩ (sub (au .nil) ao)
set_option maxHeartbeats 4000000 in
theorem qk (p : Option Addr) (n cap : Nat) (cf : Nat) (fs cs : List Value) (S : ae) (key : Int → Int) (Pd : Int → Prop) (hb : aC Tryz.prog cf = true) (hf : ∀ x y, Pd x → Pd y → aD Tryz.prog cf (fs ++ [.int .i64 x, .int .i64 y] ++ cs) [S] (aK fun v G => v = .int .i64 (ju (key x) (key y)) ∧ G = [S])) (l : List Int) (aI bI : Int) (a b : Nat) (ha : aI = a) (hbI : bI = b) (hab : a ≤ b) (hbn : b ≤ n) (hn2 : n ≤ 1000000) (hpd : ∀ i, i < n → Pd (l.getD i I3.d)) : aD Tryz.prog 123 [.slice p n cap, .int .i64 aI, .int .i64 bI, .func (.func cf) fs.toArray cs.toArray] [Row I3 p n cap (l), S] (aK fun v G => v = .tuple #[] ∧ ∃ l2, aV.Rl key I3.d l l2 a b ∧ aV.Sd key I3.d l2 a b ∧ G = [Row I3 p n cap (l2), S]) := by
 refine ax [(0, _), (1, _), (2, _), (3, _)] Tryz.func123 rfl Tryz.ntmps123 rfl rfl ?_
 intro w0 F
 refine vz (own ak) (fun hlen => ?_)
 refine rZ aA 8 rfl (by omega) ?_
 rw [show aI + 1 = ((a + 1 : Nat) : Int) by omega]
 refine eR (fun (i : Nat) (l1 : List Int) => [(0, .slice p n cap), (1, .int .i64 aI), (2, .int .i64 bI), (3, .func (.func cf) fs.toArray cs.toArray), (8, .int .i64 (i : Int))]) (fun (i : Nat) (l1 : List Int) => Row I3 p n cap (l1) :: S :: F) (fun (i : Nat) (l1 : List Int) => a + 1 ≤ i ∧ (i ≤ b ∨ i = a + 1) ∧ aV.Rl key I3.d l l1 a b ∧ aV.Sd key I3.d l1 a i) (fun (i : Nat) (l1 : List Int) => b - i) (i2 (a + 1) (_) ?_ (aX ln) (sub (aE .nil) ao)) ?_
 ·exact ⟨Nat.le_refl _, .inr rfl, aV.Rl.refl _ _ _, aV.Sd.small (Nat.le_refl _)⟩
 intro i l1
 rintro ⟨hi1, hi2, hR1, hS1⟩
 refine rL aA 8 rfl ?_
 refine aj rfl (fun h14 => ?_) (fun h14 => ?_)
 ·refine rC aA 11 rfl ?_
  refine eR (fun (j : Nat) (l2 : List Int) => [(0, .slice p n cap), (1, .int .i64 aI), (2, .int .i64 bI), (3, .func (.func cf) fs.toArray cs.toArray), (8, .int .i64 (i : Int)), (9, .int .i64 (j : Int))]) (fun (j : Nat) (l2 : List Int) => Row I3 p n cap (l2) :: S :: F) (fun (j : Nat) (l2 : List Int) => a ≤ j ∧ j ≤ i ∧ aV.Rl key I3.d l l2 a b ∧ aV.Ins key I3.d l2 a j i) (fun (j : Nat) (l2 : List Int) => j) (i2 (i) (_) ?_ (fO (aX ln)) (sub (aE .nil) ao)) ?_
  ·exact ⟨by omega, Nat.le_refl _, hR1, aV.Ins.start hS1⟩
  intro j l2
  rintro ⟨hj1, hj2, hR2, hI2⟩
  refine rL aA 2 rfl ?_
  have hpd2 := hR2.pd (Pd := Pd) hbn hpd
  have hlen2 := hR2.len
  by_cases h20 : aI < (j : Int)
  ·refine wN [pz 0 [] [9], pz 0 [] [1], pz 3 [0, 1] [], pz 7 [2] [], pz 15 [3] [3], pz 15 [3] [0], pz 15 [3] [9], pz 111 [5, 6, 3] [], pz 239 [7, 3] [], pz 15 [3] [0], pz 15 [3] [9], pz 1039 [10, 3] [], pz 3599 [9, 11, 3] [], pz 7695 [12, 3] [], pz 16383 [4, 8, 13, 3] [], pz 32767 [14, 3] [], pz 65535 [3, 15] []] [⟨fun y => Row I3 p n cap (l2), none, none, [7, 8, 12, 13]⟩, ⟨fun y => S, none, some 14, []⟩, ⟨fun y => S, some 14, none, []⟩] F V.mixed ?_
   iterate 2 refine nM ?_
   refine nV (fun y hA L => ck (cB rfl rfl) h20) ?_
   refine nM ?_
   refine aR _ (fun y => rfl) rfl rfl rfl (fun y hA L => cR rfl (cu (aB rfl) ⟨rfl, rfl⟩)) (by intros; rfl) (by intro y y2 h; rfl) ?_
   refine aR _ (fun y => rfl) rfl rfl rfl (fun y hA L => cR rfl (cu (aB rfl) ⟨rfl, rfl⟩)) (by intros; rfl) (by intro y y2 h; rfl) ?_
   refine aR _ (fun y => rfl) rfl rfl rfl (fun y hA L => cR rfl (cu (aB rfl) ⟨rfl, rfl⟩)) (by intros; rfl) (by intro y y2 h; rfl) ?_
   refine gn _ _ (fun y => rfl) rfl (fun y => rfl) rfl (fun y FF hA => cR rfl (cu (xI V.aF (own ak)) ⟨rfl, rfl⟩)) (by intros; rfl) (by intro y y2 h; rfl) ?_
   refine gn _ _ (fun y => rfl) rfl (fun y => rfl) rfl (fun y FF hA => cR rfl (cu (xL V.s3 (own ak)) ⟨rfl, rfl⟩)) (by intros; rfl) (by intro y y2 h; rfl) ?_
   refine aR _ (fun y => rfl) rfl rfl rfl (fun y hA L => cR rfl (cu (aB rfl) ⟨rfl, rfl⟩)) (by intros; rfl) (by intro y y2 h; rfl) ?_
   refine aR _ (fun y => rfl) rfl rfl rfl (fun y hA L => cR rfl (cu (aB rfl) ⟨rfl, rfl⟩)) (by intros; rfl) (by intro y y2 h; rfl) ?_
   refine aR _ (fun y => rfl) rfl rfl rfl (fun y hA L => cR rfl (cu (dD rfl rfl wI) ⟨rfl, rfl⟩)) (by intros; rfl) (by intro y y2 h; rfl) ?_
   refine gn _ _ (fun y => rfl) rfl (fun y => rfl) rfl (fun y FF hA => cR rfl (cu (xI V.aF (own ak)) ⟨rfl, rfl⟩)) (by intros; rfl) (by intro y y2 h; rfl) ?_
   refine gn _ _ (fun y => rfl) rfl (fun y => rfl) rfl (fun y FF hA => cR rfl (cu (xL V.s3 (own ak)) ⟨rfl, rfl⟩)) (by intros; rfl) (by intro y y2 h; rfl) ?_
   refine nE (fun y FF hA => cR rfl (iY (fs := fs) (cs := cs) (Post := [S]) (hf (I3.g l2 (j : Int)) (I3.g l2 ((j : Int) - 1)) (gP (k := j) (by omega) (hpd2 _ (by omega))) (gP (k := j - 1) (by omega) (hpd2 _ (by omega)))) hb rfl rfl (au .nil) (fun v G h => by rcases h with ⟨rfl, rfl⟩; exact ⟨rfl, .refl _⟩))) ?_
   refine aR _ (fun y => rfl) rfl rfl rfl (fun y hA L => cR rfl (cu (bZ rfl rfl) ⟨rfl, rfl⟩)) (by intros; rfl) (by intro y y2 h; rfl) ?_
   refine nV (fun y hA L => mS rfl rfl) ?_
   refine aM ?_
   intro y hA
   clear hA
   refine bp ?_
   refine bW _ (.cons (d := 0) rfl (.cons (d := 1) rfl (.cons (d := 2) rfl (.cons (d := 3) rfl (.cons (d := 8) rfl (.cons (d := 9) rfl (.cons (d := 34) rfl (.nil _)))))))) ?_
   refine bR (M := Row I3 p n cap (l2) :: S :: F) (fun _ _ h => h) ?_
   refine aj rfl (fun h34 => ?_) (fun h34 => ?_)
   ·refine rC aA 4 rfl ?_
    refine wN [pz 0 [] [0], pz 0 [] [9], pz 0 [] [0], pz 0 [] [9], pz 8 [3] [], pz 0 [] [0], pz 0 [] [9], pz 64 [6] [], pz 224 [5, 7] [], pz 480 [8] [], pz 0 [] [0], pz 0 [] [9], pz 3072 [10, 11] [], pz 7168 [12] [], pz 16355 [0, 1] [], pz 32739 [14, 9] [], pz 65535 [2, 4] [], pz 131071 [16, 13] []] [⟨fun y => Row I3 p n cap (l2), none, some 15, [8, 9, 12, 13, 14]⟩, ⟨fun y => S, none, none, []⟩, ⟨fun y => Row I3 p n cap ((l2).set (j : Int).toNat ((I3).g (l2) ((j : Int) - 1))), some 15, some 17, [16]⟩, ⟨fun y => Row I3 p n cap (((l2).set (j : Int).toNat ((I3).g (l2) ((j : Int) - 1))).set ((j : Int) - 1).toNat ((I3).g (l2) (j : Int))), some 17, none, []⟩] F V.mixed ?_
    iterate 4 refine nM ?_
    refine nV (fun y hA L => dD rfl rfl wI) ?_
    iterate 2 refine nM ?_
    refine nV (fun y hA L => dD rfl rfl wI) ?_
    refine nR (fun y FF hA => xI V.aF (own ak)) ?_
    refine nR (fun y FF hA => xL V.s3 (own ak)) ?_
    iterate 2 refine nM ?_
    refine nR (fun y FF hA => xI V.aF (own ak)) ?_
    refine nR (fun y FF hA => xL V.s3 (own ak)) ?_
    refine nR (fun y FF hA => xI V.aF (own ak)) ?_
    refine nE (fun y FF hA => cu (eb (c := (I3)) (_) V.s3 rfl rfl rfl (by exact dO) (by omega) (by omega) rfl rfl) ⟨rfl, .refl _⟩) ?_
    refine nR (fun y FF hA => xI V.aF (own ak)) ?_
    refine nE (fun y FF hA => cu (eb (c := (I3)) (_) V.s3 rfl rfl rfl (by exact dO) (by omega) (by omega) rfl rfl) ⟨rfl, .refl _⟩) ?_
    refine aM ?_
    intro y hA
    clear hA
    show jD _ _ _ _ (S :: Row I3 p n cap (((l2).set (j : Int).toNat ((I3).g (l2) ((j : Int) - 1))).set ((j : Int) - 1).toNat ((I3).g (l2) (j : Int))) :: F)
    refine gR ?_
    refine bp ?_
    refine aW ?_
    refine oV (aB rfl) ?_
    refine oV (dD rfl rfl wI) ?_
    refine oV (cE rfl) ?_
    refine bC ?_
    have hlt := fh.1 h34
    rw [gE j (by omega), gE (j - 1) (by omega)] at hlt
    have e1 : ((j : Int) - 1).toNat = j - 1 := by omega
    have e0 : (j : Int).toNat = j := by omega
    simp only [Ec.g, e1, e0]
    rw [show (j : Int) - 1 = ((j - 1 : Nat) : Int) by omega]
    exact j2 (j - 1) _ ⟨⟨by omega, by omega, hR2.trans (aV.Rl.Ao (by omega) (by omega) (by omega) hlt), hI2.step (by omega) hj2 (by omega) hlt⟩, by omega⟩ (fO (aX ln)) (sub (.cons ar (au .nil)) ao)
   ·refine cy aA 11 rfl (by omega) ?_
    exact j2 (i + 1) _ ⟨⟨by omega, by omega, hR2, hI2.fin hj1 (.inr (by have h := Int.not_lt.1 (fun h => h34 (fh.2 h)); rw [gE (j - 1) (by omega), gE j (by omega)] at h; exact h))⟩, by omega⟩ (aX ln) (sub (aE .nil) ao)
  ·refine wN [pz 0 [] [9], pz 0 [] [1], pz 3 [0, 1] [], pz 7 [2] [], pz 15 [3] [3], pz 15 [3] [0], pz 15 [3] [9], pz 111 [5, 6, 3] [], pz 239 [7, 3] [], pz 15 [3] [0], pz 15 [3] [9], pz 1039 [10, 3] [], pz 3599 [9, 11, 3] [], pz 7695 [12, 3] [], pz 16383 [4, 8, 13, 3] [], pz 32767 [14, 3] [], pz 65535 [3, 15] []] [⟨fun y => Row I3 p n cap (l2), none, none, []⟩, ⟨fun y => S, none, none, []⟩] F V.mixed ?_
   iterate 2 refine nM ?_
   refine nV (fun y hA L => bA (cB rfl rfl) h20) ?_
   refine nM ?_
   refine aR _ (fun y => rfl) rfl rfl rfl (fun y hA L => cQ rfl rfl ⟨rfl, rfl⟩) (by intros; rfl) (by intro y y2 h; rfl) ?_
   refine aR _ (fun y => rfl) rfl rfl rfl (fun y hA L => cQ rfl rfl ⟨rfl, rfl⟩) (by intros; rfl) (by intro y y2 h; rfl) ?_
   refine aR _ (fun y => rfl) rfl rfl rfl (fun y hA L => cQ rfl rfl ⟨rfl, rfl⟩) (by intros; rfl) (by intro y y2 h; rfl) ?_
   refine aR _ (fun y => rfl) rfl rfl rfl (fun y hA L => cQ rfl rfl ⟨rfl, rfl⟩) (by intros; rfl) (by intro y y2 h; rfl) ?_
   refine aR _ (fun y => rfl) rfl rfl rfl (fun y hA L => cQ rfl rfl ⟨rfl, rfl⟩) (by intros; rfl) (by intro y y2 h; rfl) ?_
   refine aR _ (fun y => rfl) rfl rfl rfl (fun y hA L => cQ rfl rfl ⟨rfl, rfl⟩) (by intros; rfl) (by intro y y2 h; rfl) ?_
   refine aR _ (fun y => rfl) rfl rfl rfl (fun y hA L => cQ rfl rfl ⟨rfl, rfl⟩) (by intros; rfl) (by intro y y2 h; rfl) ?_
   refine aR _ (fun y => rfl) rfl rfl rfl (fun y hA L => cQ rfl rfl ⟨rfl, rfl⟩) (by intros; rfl) (by intro y y2 h; rfl) ?_
   refine aR _ (fun y => rfl) rfl rfl rfl (fun y hA L => cQ rfl rfl ⟨rfl, rfl⟩) (by intros; rfl) (by intro y y2 h; rfl) ?_
   refine aR _ (fun y => rfl) rfl rfl rfl (fun y hA L => cQ rfl rfl ⟨rfl, rfl⟩) (by intros; rfl) (by intro y y2 h; rfl) ?_
   refine aR _ (fun y => rfl) rfl rfl rfl (fun y hA L => cQ rfl rfl ⟨rfl, rfl⟩) (by intros; rfl) (by intro y y2 h; rfl) ?_
   refine aR _ (fun y => rfl) rfl rfl rfl (fun y hA L => cQ rfl rfl ⟨rfl, rfl⟩) (by intros; rfl) (by intro y y2 h; rfl) ?_
   refine nV (fun y hA L => mP rfl rfl) ?_
   refine aM ?_
   intro y hA
   clear hA
   refine bp ?_
   refine bW _ (.cons (d := 0) rfl (.cons (d := 1) rfl (.cons (d := 2) rfl (.cons (d := 3) rfl (.cons (d := 8) rfl (.cons (d := 9) rfl (.cons (d := 34) rfl (.nil _)))))))) ?_
   refine bR (M := Row I3 p n cap (l2) :: S :: F) (fun _ _ h => h) ?_
   refine cy aA 12 rfl (by omega) ?_
   exact j2 (i + 1) _ ⟨⟨by omega, by omega, hR2, hI2.fin hj1 (.inl (by omega))⟩, by omega⟩ (aX ln) (sub (aE .nil) ao)
 ·refine rC aA 4 rfl ?_
  exact dT dN ⟨rfl, l1, hR1, hS1.sub (Nat.le_refl _) (by omega), rfl⟩ (sub (aE .nil) ao)
set_option maxHeartbeats 16000000 in
theorem Dx (p : Option Addr) (n cap : Nat) (cf : Nat) (fs cs : List Value) (S : ae) (key : Int → Int) (Pd : Int → Prop) (hb : aC Tryz.prog cf = true) (hf : ∀ x y, Pd x → Pd y → aD Tryz.prog cf (fs ++ [.int .i64 x, .int .i64 y] ++ cs) [S] (aK fun v G => v = .int .i64 (ju (key x) (key y)) ∧ G = [S])) (l : List Int) (a m b : Nat) (ham : a < m) (hmb : m < b) (hbn : b ≤ n) (hn2 : n ≤ 1000000) (hpd : ∀ i, i < n → Pd (l.getD i I3.d)) (h1 : aV.Sd key I3.d l a m) (h2 : aV.Sd key I3.d l m b) (ih : ∀ (l : List Int) (a2 m2 b2 : Nat), b2 - a2 < b - a → a2 < m2 → m2 < b2 → b2 ≤ n → (∀ i, i < n → Pd (l.getD i I3.d)) → aV.Sd key I3.d l a2 m2 → aV.Sd key I3.d l m2 b2 → aD Tryz.prog 124 [.slice p n cap, .int .i64 (a2 : Int), .int .i64 (m2 : Int), .int .i64 (b2 : Int), .func (.func cf) fs.toArray cs.toArray] [Row I3 p n cap (l), S] (aK fun v G => v = .tuple #[] ∧ ∃ l2, aV.Rl key I3.d l l2 a2 b2 ∧ aV.Sd key I3.d l2 a2 b2 ∧ G = [Row I3 p n cap (l2), S])) : aD Tryz.prog 124 [.slice p n cap, .int .i64 (a : Int), .int .i64 (m : Int), .int .i64 (b : Int), .func (.func cf) fs.toArray cs.toArray] [Row I3 p n cap (l), S] (aK fun v G => v = .tuple #[] ∧ ∃ l2, aV.Rl key I3.d l l2 a b ∧ aV.Sd key I3.d l2 a b ∧ G = [Row I3 p n cap (l2), S]) := by
 refine ax [(0, _), (1, _), (2, _), (3, _), (4, _)] Tryz.func124 rfl Tryz.ntmps124 rfl rfl ?_
 intro w0 F
 refine vz (own ak) (fun hlen => ?_)
 refine rZ aA 9 rfl (by omega) ?_
 refine aj rfl (fun h28 => ?_) (fun h28 => ?_)
 ·refine rC aA 14 rfl ?_
  refine eR (fun (i : Nat) (j : Nat) => [(0, .slice p n cap), (1, .int .i64 (a : Int)), (4, .func (.func cf) fs.toArray cs.toArray), (10, .int .i64 (i : Int)), (11, .int .i64 (j : Int))]) (fun (i : Nat) (j : Nat) => Row I3 p n cap (l) :: S :: F) (fun (i : Nat) (j : Nat) => m ≤ i ∧ i ≤ j ∧ j ≤ b ∧ (∀ x, m ≤ x → x < i → key (l.getD x I3.d) < key (l.getD a I3.d)) ∧ (∀ x, j ≤ x → x < b → key (l.getD a I3.d) ≤ key (l.getD x I3.d))) (fun (i : Nat) (j : Nat) => j - i) (i2 (m) (b) ?_ (aX ln) (sub (aE .nil) ao)) ?_
  ·exact ⟨Nat.le_refl _, by omega, Nat.le_refl _, fun x x1 x2 => by omega, fun x x1 x2 => by omega⟩
  intro i j
  rintro ⟨hi1, hij, hj1, hlo, hhi⟩
  refine rL aA 8 rfl ?_
  refine aj rfl (fun h33 => ?_) (fun h33 => ?_)
  ·refine cy aA 8 rfl (by omega) ?_
   refine oV (bq V.u3 Tryz.underlying38 rfl (lr (by omega) (by omega))) ?_
   refine oV (dK rfl rfl (by decide) (qw (by omega))) ?_
   refine oV (bq V.vl Tryz.underlying3 rfl wI) ?_
   refine oV (cE rfl) ?_
   obtain ⟨h, hhh⟩ : ∃ h : Nat, h = (i + j) / 2 := ⟨_, rfl⟩
   rw [show ((i : Int) + (j : Int)) / 2 = ((h : Nat) : Int) by omega]
   refine rO aA 3 rfl ?_
   refine wN [pz 0 [] [4], pz 0 [] [0], pz 0 [] [12], pz 6 [1, 2] [], pz 14 [3] [], pz 0 [] [0], pz 0 [] [1], pz 96 [5, 6] [], pz 224 [7] [], pz 511 [0, 4, 8] [], pz 1023 [9] []] [⟨fun y => Row I3 p n cap (l), none, none, [3, 4, 7, 8]⟩, ⟨fun y => S, none, some 9, []⟩, ⟨fun y => S, some 9, none, []⟩] F V.mixed ?_
   iterate 3 refine nM ?_
   refine nR (fun y FF hA => xI V.aF (own ak)) ?_
   refine nR (fun y FF hA => xL V.s3 (own ak)) ?_
   iterate 2 refine nM ?_
   refine nR (fun y FF hA => xI V.aF (own ak)) ?_
   refine nR (fun y FF hA => xL V.s3 (own ak)) ?_
   refine nE (fun y FF hA => iY (fs := fs) (cs := cs) (Post := [S]) (hf (I3.g l (h : Int)) (I3.g l (a : Int)) (gP (k := h) (by omega) (hpd _ (by omega))) (gP (k := a) (by omega) (hpd _ (by omega)))) hb rfl rfl (au .nil) (fun v G h => by rcases h with ⟨rfl, rfl⟩; exact ⟨rfl, .refl _⟩)) ?_
   refine nV (fun y hA L => bZ rfl rfl) ?_
   refine aM ?_
   intro y hA
   clear hA
   refine bp ?_
   refine bW _ (.cons (d := 0) rfl (.cons (d := 1) rfl (.cons (d := 4) rfl (.cons (d := 10) rfl (.cons (d := 11) rfl (.cons (d := 12) rfl (.cons (d := 50) rfl (.nil _)))))))) ?_
   refine bR (M := Row I3 p n cap (l) :: S :: F) (fun _ _ h => h) ?_
   refine aj rfl (fun h50 => ?_) (fun h50 => ?_)
   ·refine cy aA 6 rfl (by omega) ?_
    exact j2 (h + 1) j ⟨⟨by omega, by omega, by omega, aV.Gh h2 (by omega) (by omega) (by have q := fh.1 h50; rw [gE (h) (by omega), gE (a) (by omega)] at q; exact q), hhi⟩, by omega⟩ (aX ln) (sub (aE .nil) ao)
   ·refine rC aA 5 rfl ?_
    exact j2 i h ⟨⟨by omega, by omega, by omega, hlo, aV.F4 h2 (by omega) (by omega) (by have q := Int.not_lt.1 (fun z => h50 (fh.2 z)); rw [gE (a) (by omega), gE (h) (by omega)] at q; exact q)⟩, by omega⟩ (aX ln) (sub (aE .nil) ao)
  ·refine rC aA 7 rfl ?_
   have hij : i = j := by omega
   subst hij
   have hma : m = a + 1 := by omega
   subst hma
   refine rC aA 6 rfl ?_
   refine eR (fun (k : Nat) (l2 : List Int) => [(0, .slice p n cap), (10, .int .i64 (i : Int)), (13, .int .i64 (k : Int))]) (fun (k : Nat) (l2 : List Int) => Row I3 p n cap (l2) :: S :: F) (fun (k : Nat) (l2 : List Int) => a ≤ k ∧ k ≤ i - 1 ∧ aV.Mv key I3.d l l2 a b k) (fun (k : Nat) (l2 : List Int) => i - k) (i2 (a) (l) ?_ (fL ln) (sub (aE .nil) ao)) ?_
   ·exact ⟨Nat.le_refl _, by omega, aV.Mv.start _ _ _⟩
   intro k l2
   rintro ⟨hk1, hk2, hMv⟩
   refine uN aA 9 rfl (by omega) ?_
   refine aj rfl (fun h58 => ?_) (fun h58 => ?_)
   ·refine rC aA 4 rfl ?_
    refine wN [pz 0 [] [0], pz 0 [] [13], pz 0 [] [0], pz 0 [] [13], pz 8 [3] [], pz 0 [] [0], pz 0 [] [13], pz 64 [6] [], pz 224 [5, 7] [], pz 480 [8] [], pz 0 [] [0], pz 0 [] [13], pz 3072 [10, 11] [], pz 7168 [12] [], pz 16355 [0, 1] [], pz 32739 [14, 9] [], pz 65535 [2, 4] [], pz 131071 [16, 13] []] [⟨fun y => Row I3 p n cap (l2), none, some 15, [8, 9, 12, 13, 14]⟩, ⟨fun y => S, none, none, []⟩, ⟨fun y => Row I3 p n cap ((l2).set (k : Int).toNat ((I3).g (l2) ((k : Int) + 1))), some 15, some 17, [16]⟩, ⟨fun y => Row I3 p n cap (((l2).set (k : Int).toNat ((I3).g (l2) ((k : Int) + 1))).set ((k : Int) + 1).toNat ((I3).g (l2) (k : Int))), some 17, none, []⟩] F V.mixed ?_
    iterate 4 refine nM ?_
    refine nV (fun y hA L => bU rfl rfl wI) ?_
    iterate 2 refine nM ?_
    refine nV (fun y hA L => bU rfl rfl wI) ?_
    refine nR (fun y FF hA => xI V.aF (own ak)) ?_
    refine nR (fun y FF hA => xL V.s3 (own ak)) ?_
    iterate 2 refine nM ?_
    refine nR (fun y FF hA => xI V.aF (own ak)) ?_
    refine nR (fun y FF hA => xL V.s3 (own ak)) ?_
    refine nR (fun y FF hA => xI V.aF (own ak)) ?_
    refine nE (fun y FF hA => cu (eb (c := (I3)) (_) V.s3 rfl rfl rfl (by exact dO) (by omega) (by omega) rfl rfl) ⟨rfl, .refl _⟩) ?_
    refine nR (fun y FF hA => xI V.aF (own ak)) ?_
    refine nE (fun y FF hA => cu (eb (c := (I3)) (_) V.s3 rfl rfl rfl (by exact dO) (by omega) (by omega) rfl rfl) ⟨rfl, .refl _⟩) ?_
    refine aM ?_
    intro y hA
    clear hA
    show jD _ _ _ _ (S :: Row I3 p n cap (((l2).set (k : Int).toNat ((I3).g (l2) ((k : Int) + 1))).set ((k : Int) + 1).toNat ((I3).g (l2) (k : Int))) :: F)
    refine gR ?_
    refine bp ?_
    refine aW ?_
    refine oV (aB rfl) ?_
    refine oV (bU rfl rfl wI) ?_
    refine oV (cE rfl) ?_
    refine bC ?_
    have hlen2 := hMv.rl.len
    have e1 : ((k : Int) + 1).toNat = k + 1 := by omega
    have e0 : (k : Int).toNat = k := by omega
    simp only [Ec.g, e1, e0]
    exact j2 (k + 1) _ ⟨⟨by omega, by omega, hMv.step (by omega) (by omega) (by omega) (hlo _ (by omega) (by omega))⟩, by omega⟩ (fL ln) (sub (.cons ar (au .nil)) ao)
   ·refine rC aA 7 rfl ?_
    have hke : k = i - 1 := by omega
    subst hke
    exact an dN ⟨rfl, l2, hMv.rl, hMv.fin (by omega) (by omega) h2 hlo hhi, rfl⟩ (sub (aE .nil) ao)
 ·refine cy aA 11 rfl (by omega) ?_
  refine aj rfl (fun h80 => ?_) (fun h80 => ?_)
  ·refine rC aA 14 rfl ?_
   refine eR (fun (i : Nat) (j : Nat) => [(0, .slice p n cap), (2, .int .i64 (m : Int)), (4, .func (.func cf) fs.toArray cs.toArray), (14, .int .i64 (i : Int)), (15, .int .i64 (j : Int))]) (fun (i : Nat) (j : Nat) => Row I3 p n cap (l) :: S :: F) (fun (i : Nat) (j : Nat) => a ≤ i ∧ i ≤ j ∧ j ≤ m ∧ (∀ x, a ≤ x → x < i → key (l.getD x I3.d) ≤ key (l.getD m I3.d)) ∧ (∀ x, j ≤ x → x < m → key (l.getD m I3.d) < key (l.getD x I3.d))) (fun (i : Nat) (j : Nat) => j - i) (i2 (a) (m) ?_ (aX ln) (sub (aE .nil) ao)) ?_
   ·exact ⟨Nat.le_refl _, by omega, Nat.le_refl _, fun x x1 x2 => by omega, fun x x1 x2 => by omega⟩
   intro i j
   rintro ⟨hi1, hij, hj1, hlo, hhi⟩
   refine rL aA 8 rfl ?_
   refine aj rfl (fun h85 => ?_) (fun h85 => ?_)
   ·refine cy aA 8 rfl (by omega) ?_
    refine oV (bq V.u3 Tryz.underlying38 rfl (lr (by omega) (by omega))) ?_
    refine oV (dK rfl rfl (by decide) (qw (by omega))) ?_
    refine oV (bq V.vl Tryz.underlying3 rfl wI) ?_
    refine oV (cE rfl) ?_
    obtain ⟨h, hhh⟩ : ∃ h : Nat, h = (i + j) / 2 := ⟨_, rfl⟩
    rw [show ((i : Int) + (j : Int)) / 2 = ((h : Nat) : Int) by omega]
    refine rO aA 3 rfl ?_
    refine wN [pz 0 [] [4], pz 0 [] [0], pz 0 [] [2], pz 6 [1, 2] [], pz 14 [3] [], pz 0 [] [0], pz 0 [] [16], pz 96 [5, 6] [], pz 224 [7] [], pz 511 [0, 4, 8] [], pz 1023 [9] [], pz 2047 [10] []] [⟨fun y => Row I3 p n cap (l), none, none, [3, 4, 7, 8]⟩, ⟨fun y => S, none, some 9, []⟩, ⟨fun y => S, some 9, none, []⟩] F V.mixed ?_
    iterate 3 refine nM ?_
    refine nR (fun y FF hA => xI V.aF (own ak)) ?_
    refine nR (fun y FF hA => xL V.s3 (own ak)) ?_
    iterate 2 refine nM ?_
    refine nR (fun y FF hA => xI V.aF (own ak)) ?_
    refine nR (fun y FF hA => xL V.s3 (own ak)) ?_
    refine nE (fun y FF hA => iY (fs := fs) (cs := cs) (Post := [S]) (hf (I3.g l (m : Int)) (I3.g l (h : Int)) (gP (k := m) (by omega) (hpd _ (by omega))) (gP (k := h) (by omega) (hpd _ (by omega)))) hb rfl rfl (au .nil) (fun v G h => by rcases h with ⟨rfl, rfl⟩; exact ⟨rfl, .refl _⟩)) ?_
    refine nV (fun y hA L => bZ rfl rfl) ?_
    refine nV (fun y hA L => qS rfl) ?_
    refine aM ?_
    intro y hA
    clear hA
    refine bp ?_
    refine bW _ (.cons (d := 0) rfl (.cons (d := 2) rfl (.cons (d := 4) rfl (.cons (d := 14) rfl (.cons (d := 15) rfl (.cons (d := 16) rfl (.cons (d := 103) rfl (.nil _)))))))) ?_
    refine bR (M := Row I3 p n cap (l) :: S :: F) (fun _ _ h => h) ?_
    refine aj rfl (fun h103 => ?_) (fun h103 => ?_)
    ·refine cy aA 6 rfl (by omega) ?_
     exact j2 (h + 1) j ⟨⟨by omega, by omega, by omega, aV.FZ h1 (by omega) (by omega) (by have q := Int.not_lt.1 (fun z => h103 (fh.2 z)); rw [gE (h) (by omega), gE (m) (by omega)] at q; exact q), hhi⟩, by omega⟩ (aX ln) (sub (aE .nil) ao)
    ·refine rC aA 5 rfl ?_
     exact j2 i h ⟨⟨by omega, by omega, by omega, hlo, aV.GH h1 (by omega) (by omega) (by have q := fh.1 (Classical.not_not.1 h103); rw [gE (m) (by omega), gE (h) (by omega)] at q; exact q)⟩, by omega⟩ (aX ln) (sub (aE .nil) ao)
   ·refine rC aA 7 rfl ?_
    have hij : i = j := by omega
    subst hij
    have hbm : b = m + 1 := by omega
    refine rC aA 6 rfl ?_
    refine eR (fun (k : Nat) (l2 : List Int) => [(0, .slice p n cap), (14, .int .i64 (i : Int)), (17, .int .i64 (k : Int))]) (fun (k : Nat) (l2 : List Int) => Row I3 p n cap (l2) :: S :: F) (fun (k : Nat) (l2 : List Int) => i ≤ k ∧ k ≤ m ∧ aV.Mw key I3.d l l2 a b m k) (fun (k : Nat) (l2 : List Int) => k) (i2 (m) (l) ?_ (fL ln) (sub (aE .nil) ao)) ?_
    ·exact ⟨by omega, Nat.le_refl _, aV.Mw.start _ _ _ _⟩
    intro k l2
    rintro ⟨hk1, hk2, hMw⟩
    refine rL aA 8 rfl ?_
    refine aj rfl (fun h110 => ?_) (fun h110 => ?_)
    ·refine rC aA 4 rfl ?_
     refine wN [pz 0 [] [0], pz 0 [] [17], pz 0 [] [0], pz 0 [] [17], pz 8 [3] [], pz 0 [] [0], pz 0 [] [17], pz 64 [6] [], pz 224 [5, 7] [], pz 480 [8] [], pz 0 [] [0], pz 0 [] [17], pz 3072 [10, 11] [], pz 7168 [12] [], pz 16355 [0, 1] [], pz 32739 [14, 9] [], pz 65535 [2, 4] [], pz 131071 [16, 13] []] [⟨fun y => Row I3 p n cap (l2), none, some 15, [8, 9, 12, 13, 14]⟩, ⟨fun y => S, none, none, []⟩, ⟨fun y => Row I3 p n cap ((l2).set (k : Int).toNat ((I3).g (l2) ((k : Int) - 1))), some 15, some 17, [16]⟩, ⟨fun y => Row I3 p n cap (((l2).set (k : Int).toNat ((I3).g (l2) ((k : Int) - 1))).set ((k : Int) - 1).toNat ((I3).g (l2) (k : Int))), some 17, none, []⟩] F V.mixed ?_
     iterate 4 refine nM ?_
     refine nV (fun y hA L => dD rfl rfl wI) ?_
     iterate 2 refine nM ?_
     refine nV (fun y hA L => dD rfl rfl wI) ?_
     refine nR (fun y FF hA => xI V.aF (own ak)) ?_
     refine nR (fun y FF hA => xL V.s3 (own ak)) ?_
     iterate 2 refine nM ?_
     refine nR (fun y FF hA => xI V.aF (own ak)) ?_
     refine nR (fun y FF hA => xL V.s3 (own ak)) ?_
     refine nR (fun y FF hA => xI V.aF (own ak)) ?_
     refine nE (fun y FF hA => cu (eb (c := (I3)) (_) V.s3 rfl rfl rfl (by exact dO) (by omega) (by omega) rfl rfl) ⟨rfl, .refl _⟩) ?_
     refine nR (fun y FF hA => xI V.aF (own ak)) ?_
     refine nE (fun y FF hA => cu (eb (c := (I3)) (_) V.s3 rfl rfl rfl (by exact dO) (by omega) (by omega) rfl rfl) ⟨rfl, .refl _⟩) ?_
     refine aM ?_
     intro y hA
     clear hA
     show jD _ _ _ _ (S :: Row I3 p n cap (((l2).set (k : Int).toNat ((I3).g (l2) ((k : Int) - 1))).set ((k : Int) - 1).toNat ((I3).g (l2) (k : Int))) :: F)
     refine gR ?_
     refine bp ?_
     refine aW ?_
     refine oV (aB rfl) ?_
     refine oV (dD rfl rfl wI) ?_
     refine oV (cE rfl) ?_
     refine bC ?_
     have hlen2 := hMw.rl.len
     have e1 : ((k : Int) - 1).toNat = k - 1 := by omega
     have e0 : (k : Int).toNat = k := by omega
     simp only [Ec.g, e1, e0]
     rw [show (k : Int) - 1 = ((k - 1 : Nat) : Int) by omega]
     exact j2 (k - 1) _ ⟨⟨by omega, by omega, hMw.step (by omega) (by omega) (by omega) (by omega) (hhi _ (by omega) (by omega))⟩, by omega⟩ (fL ln) (sub (.cons ar (au .nil)) ao)
    ·refine rC aA 7 rfl ?_
     have hke : k = i := by omega
     subst hke
     exact an dN ⟨rfl, l2, hMw.rl, hMw.fin (by omega) (by omega) hbm h1 hlo hhi, rfl⟩ (sub (aE .nil) ao)
  ·refine cy aA 7 rfl (by omega) ?_
   refine oV (bq V.u3 Tryz.underlying38 rfl (lr (by omega) (by omega))) ?_
   refine oV (dK rfl rfl (by decide) (qw (by omega))) ?_
   refine oV (bq V.vl Tryz.underlying3 rfl wI) ?_
   refine oV (cE rfl) ?_
   obtain ⟨mid, hmidmid⟩ : ∃ mid : Nat, mid = (a + b) / 2 := ⟨_, rfl⟩
   rw [show ((a : Int) + (b : Int)) / 2 = ((mid : Nat) : Int) by omega]
   refine bN aA 16 rfl (by omega) ?_
   refine zp (fun (st0 : Nat) (r0 : Nat) => [(0, .slice p n cap), (1, .int .i64 (a : Int)), (2, .int .i64 (m : Int)), (3, .int .i64 (b : Int)), (4, .func (.func cf) fs.toArray cs.toArray), (18, .int .i64 (mid : Int)), (19, .int .i64 ((mid : Int) + (m : Int))), (20, .int .i64 (st0 : Int)), (21, .int .i64 (r0 : Int))]) (fun (st0 : Nat) (r0 : Nat) => Row I3 p n cap (l) :: S :: F) (fun (st0 : Nat) (r0 : Nat) => st0 = (if mid < m then mid + m - b else a) ∧ r0 = (if mid < m then mid else m)) ?_ ?_
   ·refine rL aA 7 rfl ?_
    refine aj rfl (fun h140 => ?_) (fun h140 => ?_)
    ·refine cy aA 12 rfl (by omega) ?_
     (rw [show (mid : Int) + (m : Int) - (b : Int) = ((mid + m - b : Nat) : Int) by omega]; exact j2 (mid + m - b) mid ⟨(if_pos (by omega)).symm, (if_pos (by omega)).symm⟩ (dI (aX ln)) (sub (aE .nil) ao))
    ·refine rC aA 10 rfl ?_
     exact j2 a m ⟨(if_neg (by omega)).symm, (if_neg (by omega)).symm⟩ (dI (aX ln)) (sub (aE .nil) ao)
   ·intro st0 r0
    rintro hst
    have hb0 : a ≤ st0 ∧ st0 ≤ r0 ∧ r0 ≤ m ∧ r0 ≤ mid ∧ mid + m ≤ st0 + b ∧ mid < b := by obtain ⟨e0, e1⟩ := hst; split at e0 <;> split at e1 <;> omega
    refine cy aA 9 rfl (by omega) ?_
    refine eR (fun (s : Nat) (r : Nat) => [(0, .slice p n cap), (1, .int .i64 (a : Int)), (2, .int .i64 (m : Int)), (3, .int .i64 (b : Int)), (4, .func (.func cf) fs.toArray cs.toArray), (18, .int .i64 (mid : Int)), (19, .int .i64 ((mid : Int) + (m : Int))), (20, .int .i64 (s : Int)), (21, .int .i64 (r : Int)), (22, .int .i64 (((mid : Int) + (m : Int)) - 1))]) (fun (s : Nat) (r : Nat) => Row I3 p n cap (l) :: S :: F) (fun (s : Nat) (r : Nat) => st0 ≤ s ∧ s ≤ r ∧ r ≤ r0 ∧ (∀ x, st0 ≤ x → x < s → key (l.getD x I3.d) ≤ key (l.getD (mid + m - 1 - x) I3.d)) ∧ (∀ x, r ≤ x → x < r0 → key (l.getD (mid + m - 1 - x) I3.d) < key (l.getD x I3.d))) (fun (s : Nat) (r : Nat) => r - s) (i2 (st0) (r0) ?_ (aX (aX ln)) (sub (aE .nil) ao)) ?_
    ·exact ⟨Nat.le_refl _, by omega, Nat.le_refl _, fun x x1 x2 => by omega, fun x x1 x2 => by omega⟩
    intro s r
    rintro ⟨hs1, hsr1, hr1, hy, hno⟩
    refine rL aA 8 rfl ?_
    refine aj rfl (fun h151 => ?_) (fun h151 => ?_)
    ·refine cy aA 8 rfl (by omega) ?_
     refine oV (bq V.u3 Tryz.underlying38 rfl (lr (by omega) (by omega))) ?_
     refine oV (dK rfl rfl (by decide) (qw (by omega))) ?_
     refine oV (bq V.vl Tryz.underlying3 rfl wI) ?_
     refine oV (cE rfl) ?_
     obtain ⟨h, hhh⟩ : ∃ h : Nat, h = (s + r) / 2 := ⟨_, rfl⟩
     rw [show ((s : Int) + (r : Int)) / 2 = ((h : Nat) : Int) by omega]
     refine rO aA 3 rfl ?_
     refine wN [pz 0 [] [4], pz 0 [] [0], pz 0 [] [22], pz 0 [] [23], pz 12 [2, 3] [], pz 30 [1, 4] [], pz 62 [5] [], pz 0 [] [0], pz 0 [] [23], pz 384 [7, 8] [], pz 896 [9] [], pz 2047 [0, 6, 10] [], pz 4095 [11] [], pz 8191 [12] []] [⟨fun y => Row I3 p n cap (l), none, none, [5, 6, 9, 10]⟩, ⟨fun y => S, none, some 11, []⟩, ⟨fun y => S, some 11, none, []⟩] F V.mixed ?_
     iterate 4 refine nM ?_
     refine nV (fun y hA L => dD rfl rfl wI) ?_
     refine nR (fun y FF hA => xI V.aF (own ak)) ?_
     refine nR (fun y FF hA => xL V.s3 (own ak)) ?_
     iterate 2 refine nM ?_
     refine nR (fun y FF hA => xI V.aF (own ak)) ?_
     refine nR (fun y FF hA => xL V.s3 (own ak)) ?_
     refine nE (fun y FF hA => iY (fs := fs) (cs := cs) (Post := [S]) (hf (I3.g l ((((mid : Int) + (m : Int)) - 1) - (h : Int))) (I3.g l (h : Int)) (gP (k := mid + m - 1 - h) (by omega) (hpd _ (by omega))) (gP (k := h) (by omega) (hpd _ (by omega)))) hb rfl rfl (au .nil) (fun v G h => by rcases h with ⟨rfl, rfl⟩; exact ⟨rfl, .refl _⟩)) ?_
     refine nV (fun y hA L => bZ rfl rfl) ?_
     refine nV (fun y hA L => qS rfl) ?_
     refine aM ?_
     intro y hA
     clear hA
     refine bp ?_
     refine bW _ (.cons (d := 0) rfl (.cons (d := 1) rfl (.cons (d := 2) rfl (.cons (d := 3) rfl (.cons (d := 4) rfl (.cons (d := 18) rfl (.cons (d := 19) rfl (.cons (d := 20) rfl (.cons (d := 21) rfl (.cons (d := 22) rfl (.cons (d := 23) rfl (.cons (d := 171) rfl (.nil _))))))))))))) ?_
     refine bR (M := Row I3 p n cap (l) :: S :: F) (fun _ _ h => h) ?_
     refine aj rfl (fun h171 => ?_) (fun h171 => ?_)
     ·refine cy aA 6 rfl (by omega) ?_
      exact j2 (h + 1) r ⟨⟨by omega, by omega, by omega, aV.De ham hmb hmidmid h1 h2 hst.1 hst.2 (by omega) (by omega) (by have q := Int.not_lt.1 (fun z => h171 (fh.2 z)); rw [gE (h) (by omega), gE (mid + m - 1 - h) (by omega)] at q; exact q), hno⟩, by omega⟩ (aX (aX ln)) (sub (aE .nil) ao)
     ·refine rC aA 5 rfl ?_
      exact j2 s h ⟨⟨by omega, by omega, by omega, hy, aV.Di ham hmb hmidmid h1 h2 hst.1 hst.2 (by omega) (by omega) (by have q := fh.1 (Classical.not_not.1 h171); rw [gE (mid + m - 1 - h) (by omega), gE (h) (by omega)] at q; exact q)⟩, by omega⟩ (aX (aX ln)) (sub (aE .nil) ao)
    ·refine rC aA 6 rfl ?_
     have hsr : s = r := by omega
     subst hsr
     obtain ⟨q1, q2, q3, q4, q5, q6, hlt, hc⟩ := aV.xv (by omega) ham hmb hmidmid h1 h2 (by rw [← hst.1]; omega) (by rw [← hst.2]; omega) (fun hh => hy (s - 1) (by rw [← hst.1] at hh; omega) (by rw [← hst.1] at hh; omega)) (fun hh => hno s (Nat.le_refl _) (by rw [← hst.2] at hh; omega))
     refine cy aA 5 rfl (by omega) ?_
     obtain ⟨e, he⟩ : ∃ e : Nat, e = mid + m - s := ⟨_, rfl⟩
     rw [show (mid : Int) + (m : Int) - (s : Int) = ((e : Nat) : Int) by omega]
     refine rO aA 2 rfl ?_
     refine ot (fun (l1 : List Int) => [(0, .slice p n cap), (1, .int .i64 (a : Int)), (3, .int .i64 (b : Int)), (4, .func (.func cf) fs.toArray cs.toArray), (18, .int .i64 (mid : Int)), (20, .int .i64 (s : Int)), (24, .int .i64 (e : Int))]) (fun (l1 : List Int) => Row I3 p n cap (l1) :: S :: F) (fun (l1 : List Int) => aV.kI key I3.d l l1 a s mid e b) ?_ ?_
     ·refine rL aA 6 rfl ?_
      refine ee 181 rfl (fun h181 => ?_) (fun h181 => ?_)
      ·refine rO aA 6 rfl ?_
       refine aj rfl (fun h185 => ?_) (fun h185 => ?_)
       ·obtain ⟨Pp, X, Y, Z, hl, hP, hX, hY, hXm, hYm⟩ := aV.blocks (d := I3.d) l s m e (by omega) (by omega) (by omega)
        subst hl
        refine rC aA 6 rfl ?_
        refine ai (CP p n cap _ Pp X Y Z (s : Int) (m : Int) (e : Int) (by omega) (by omega) (by omega) (by omega) (by omega) (by simp only [List.length_append] at hlen; omega) hn2) V.Je  rfl (au .nil) rfl ?_
        rintro _ _ ⟨rfl, rfl⟩
        refine bC ?_
        refine j1 (_) ?_ (kr (aX ln)) (sub (aE .nil) ao)
        (subst he; exact aV.kI.Mg hP hX (by omega) h1 h2 ⟨q1, q2, q3, q4, q5, q6⟩ (hlt (by omega) (by omega)) hc hXm hYm)
       ·refine rC aA 1 rfl ?_
        refine j1 (_) ?_ (kr (aX ln)) (sub (aE .nil) ao)
        (subst he; exact aV.kI.stay h1 h2 ⟨q1, q2, q3, q4, q5, q6⟩ hc (by omega))
      ·refine rO aA 8 rfl ?_
       refine j1 (_) ?_ (kr (aX ln)) (sub (aE .nil) ao)
       (subst he; exact aV.kI.stay h1 h2 ⟨q1, q2, q3, q4, q5, q6⟩ hc (by omega))
     ·intro l1
      rintro hPt
      refine ot (fun (l2 : List Int) => [(0, .slice p n cap), (3, .int .i64 (b : Int)), (4, .func (.func cf) fs.toArray cs.toArray), (18, .int .i64 (mid : Int)), (24, .int .i64 (e : Int))]) (fun (l2 : List Int) => Row I3 p n cap (l2) :: S :: F) (fun (l2 : List Int) => aV.Rl key I3.d l1 l2 a mid ∧ aV.Sd key I3.d l2 a mid) ?_ ?_
      ·refine rL aA 6 rfl ?_
       refine ee 195 rfl (fun h195 => ?_) (fun h195 => ?_)
       ·refine rO aA 6 rfl ?_
        refine aj rfl (fun h199 => ?_) (fun h199 => ?_)
        ·refine rC aA 6 rfl ?_
         refine ai (ih l1 a s mid (by omega) (by omega) (by omega) (by omega) (hPt.rl.pd (by omega) hpd) hPt.s1 hPt.s2) V.Aj  rfl (aE .nil) rfl ?_
         rintro _ _ ⟨rfl, l2, hr2, hs2, rfl⟩
         refine bC ?_
         refine j1 (_) ?_ (aX ln) (sub (aE .nil) ao)
         exact ⟨hr2, hs2⟩
        ·refine rC aA 1 rfl ?_
         refine j1 (_) ?_ (aX ln) (sub (aE .nil) ao)
         exact ⟨aV.Rl.refl _ _ _, aV.Sd.join hPt.s1 hPt.s2 (fun i j i1 i2 j1 j2 => by omega)⟩
       ·refine rO aA 8 rfl ?_
        refine j1 (_) ?_ (aX ln) (sub (aE .nil) ao)
        exact ⟨aV.Rl.refl _ _ _, aV.Sd.join hPt.s1 hPt.s2 (fun i j i1 i2 j1 j2 => by omega)⟩
      ·intro l2
       rintro ⟨hR2, hS2⟩
       refine rC aA 6 rfl ?_
       refine ee 209 rfl (fun h209 => ?_) (fun h209 => ?_)
       ·refine rO aA 6 rfl ?_
        refine aj rfl (fun h213 => ?_) (fun h213 => ?_)
        ·refine rC aA 6 rfl ?_
         refine ai (ih l2 mid e b (by omega) (by omega) (by omega) (by omega) (hR2.pd (by omega) (hPt.rl.pd (by omega) hpd)) (hPt.s3.congr (fun i i1 i2 => hR2.out i (by omega))) (hPt.s4.congr (fun i i1 i2 => hR2.out i (by omega)))) V.Aj  rfl (aE .nil) rfl ?_
         rintro _ _ ⟨rfl, l3, hr3, iv, rfl⟩
         refine bC ?_
         exact dT dN ⟨rfl, l3, hPt.rl.trans ((hR2.wide (Nat.le_refl _) (by omega)).trans (hr3.wide (by omega) (Nat.le_refl _))), aV.Sd.join (hS2.congr (fun i i1 i2 => hr3.out i (by omega))) iv (aV.r1 (aV.kl hPt.cr hR2) hr3), rfl⟩ (sub (aE .nil) ao)
        ·refine rC aA 1 rfl ?_
         exact dT dN ⟨rfl, l2, hPt.rl.trans (hR2.wide (Nat.le_refl _) (by omega)), aV.Sd.join hS2 (aV.Sd.join (hPt.s3.congr (fun i i1 i2 => hR2.out i (by omega))) (hPt.s4.congr (fun i i1 i2 => hR2.out i (by omega))) (fun i j i1 i2 j1 j2 => by omega)) (aV.kl hPt.cr hR2), rfl⟩ (sub (aE .nil) ao)
       ·refine rO aA 8 rfl ?_
        exact dT dN ⟨rfl, l2, hPt.rl.trans (hR2.wide (Nat.le_refl _) (by omega)), aV.Sd.join hS2 (aV.Sd.join (hPt.s3.congr (fun i i1 i2 => hR2.out i (by omega))) (hPt.s4.congr (fun i i1 i2 => hR2.out i (by omega))) (fun i j i1 i2 j1 j2 => by omega)) (aV.kl hPt.cr hR2), rfl⟩ (sub (aE .nil) ao)
theorem sC (p : Option Addr) (n cap : Nat) (cf : Nat) (fs cs : List Value) (S : ae) (key : Int → Int) (Pd : Int → Prop) (hb : aC Tryz.prog cf = true) (hf : ∀ x y, Pd x → Pd y → aD Tryz.prog cf (fs ++ [.int .i64 x, .int .i64 y] ++ cs) [S] (aK fun v G => v = .int .i64 (ju (key x) (key y)) ∧ G = [S])) (hn2 : n ≤ 1000000) : ∀ (k : Nat) (l : List Int) (a m b : Nat), b - a ≤ k → a < m → m < b → b ≤ n → (∀ i, i < n → Pd (l.getD i I3.d)) → aV.Sd key I3.d l a m → aV.Sd key I3.d l m b → aD Tryz.prog 124 [.slice p n cap, .int .i64 (a : Int), .int .i64 (m : Int), .int .i64 (b : Int), .func (.func cf) fs.toArray cs.toArray] [Row I3 p n cap (l), S] (aK fun v G => v = .tuple #[] ∧ ∃ l2, aV.Rl key I3.d l l2 a b ∧ aV.Sd key I3.d l2 a b ∧ G = [Row I3 p n cap (l2), S])
 | 0, l, a, m, b, hk, ham, hmb, hbn, hpd, h1, h2 => by omega
 | k + 1, l, a, m, b, hk, ham, hmb, hbn, hpd, h1, h2 => Dx p n cap cf fs cs S key Pd hb hf l a m b ham hmb hbn hn2 hpd h1 h2 (fun l a2 m2 b2 hlt q1 q2 q3 q4 q5 q6 => sC p n cap cf fs cs S key Pd hb hf hn2 k l a2 m2 b2 (by omega) q1 q2 q3 q4 q5 q6)
set_option maxHeartbeats 8000000 in
theorem DH (p : Option Addr) (n cap : Nat) (cf : Nat) (fs cs : List Value) (S : ae) (key : Int → Int) (Pd : Int → Prop) (hb : aC Tryz.prog cf = true) (hf : ∀ x y, Pd x → Pd y → aD Tryz.prog cf (fs ++ [.int .i64 x, .int .i64 y] ++ cs) [S] (aK fun v G => v = .int .i64 (ju (key x) (key y)) ∧ G = [S])) (l : List Int) (hn2 : n ≤ 1000000) (hpd : ∀ i, i < n → Pd (l.getD i I3.d)) : aD Tryz.prog 107 [.slice p n cap, .int .i64 (n : Int), .func (.func cf) fs.toArray cs.toArray] [Row I3 p n cap (l), S] (aK fun v G => v = .tuple #[] ∧ ∃ l2, aV.Rl key I3.d l l2 0 n ∧ aV.Sd key I3.d l2 0 n ∧ G = [Row I3 p n cap (l2), S]) := by
 refine ax [(0, _), (1, _), (2, _)] Tryz.func107 rfl Tryz.ntmps107 rfl rfl ?_
 intro w0 F
 refine rT aA 14 rfl ?_
 refine eR (fun (A : Nat) (l1 : List Int) => [(0, .slice p n cap), (1, .int .i64 (n : Int)), (2, .func (.func cf) fs.toArray cs.toArray), (6, .int .i64 20), (7, .int .i64 (A : Int)), (8, .int .i64 ((20 + A : Nat) : Int))]) (fun (A : Nat) (l1 : List Int) => Row I3 p n cap (l1) :: S :: F) (fun (A : Nat) (l1 : List Int) => 20 ∣ A ∧ A ≤ n ∧ aV.Rl key I3.d l l1 0 n ∧ aV.Bd key I3.d l1 20 A) (fun (A : Nat) (l1 : List Int) => n - A) (i2 (0) (l) ?_ (fO (aX ln)) (sub (aE .nil) ao)) ?_
 ·exact ⟨Nat.dvd_zero _, Nat.zero_le _, aV.Rl.refl _ _ _, aV.Bd.zero _ _ (by decide)⟩
 intro A l1
 rintro ⟨hA, hAn, hR1, hBd⟩
 refine rL aA 8 rfl ?_
 refine aj rfl (fun h13 => ?_) (fun h13 => ?_)
 ·refine rC aA 9 rfl ?_
  refine ai (qk p n cap cf fs cs S key Pd hb hf l1 _ _ A (20 + A) rfl rfl (by omega) (by omega) hn2 (hR1.pd (Nat.le_refl _) hpd)) V.JA  rfl (aE .nil) rfl ?_
  rintro _ _ ⟨rfl, l3, hr3, iv, rfl⟩
  refine bN aA 15 rfl (by omega) ?_
  rw [show ((20 + A : Nat) : Int) + 20 = ((20 + (20 + A) : Nat) : Int) by omega]
  exact j2 (20 + A) _ ⟨⟨by omega, by omega, hR1.trans (hr3.wide (Nat.zero_le _) (by omega)), hBd.step hA hr3 iv⟩, by omega⟩ (fO (aX ln)) (sub (aE .nil) ao)
 ·refine rC aA 11 rfl ?_
  refine ai (qk p n cap cf fs cs S key Pd hb hf l1 _ _ A n rfl rfl (by omega) (by omega) hn2 (hR1.pd (Nat.le_refl _) hpd)) V.JA  rfl (aE .nil) rfl ?_
  rintro _ _ ⟨rfl, l3, hr3, iv, rfl⟩
  refine rO aA 3 rfl ?_
  refine eR (fun (bs : Nat) (l1 : List Int) => [(0, .slice p n cap), (1, .int .i64 (n : Int)), (2, .func (.func cf) fs.toArray cs.toArray), (6, .int .i64 (bs : Int))]) (fun (bs : Nat) (l1 : List Int) => Row I3 p n cap (l1) :: S :: F) (fun (bs : Nat) (l1 : List Int) => 0 < bs ∧ aV.Rl key I3.d l l1 0 n ∧ aV.Bk key I3.d l1 bs n) (fun (bs : Nat) (l1 : List Int) => n - bs) (i2 (20) (_) ?_ (dI ln) (sub (aE .nil) ao)) ?_
  ·exact ⟨by decide, hR1.trans (hr3.wide (Nat.zero_le _) (Nat.le_refl _)), hBd.fin hA hAn (by omega) hr3 iv⟩
  intro bs l1
  rintro ⟨hbs, hR1, hBk⟩
  refine rL aA 8 rfl ?_
  refine aj rfl (fun h30 => ?_) (fun h30 => ?_)
  ·refine cy aA 13 rfl (by omega) ?_
   refine eR (fun (A : Nat) (l2 : List Int) => [(0, .slice p n cap), (1, .int .i64 (n : Int)), (2, .func (.func cf) fs.toArray cs.toArray), (6, .int .i64 (bs : Int)), (7, .int .i64 (A : Int)), (8, .int .i64 ((2 * bs + A : Nat) : Int))]) (fun (A : Nat) (l2 : List Int) => Row I3 p n cap (l2) :: S :: F) (fun (A : Nat) (l2 : List Int) => 2 * bs ∣ A ∧ A ≤ n ∧ aV.Rl key I3.d l l2 0 n ∧ aV.Bd key I3.d l2 (2 * bs) A ∧ aV.Br key I3.d l2 bs n A) (fun (A : Nat) (l2 : List Int) => n - A) (i2 (0) (_) ?_ (fO (aX ln)) (sub (aE .nil) ao)) ?_
   ·exact ⟨Nat.dvd_zero _, Nat.zero_le _, hR1, aV.Bd.zero _ _ (by omega), hBk.br⟩
   intro A l2
   rintro ⟨hA, hAn, hR2, hBd, hBr⟩
   refine rL aA 8 rfl ?_
   refine aj rfl (fun h35 => ?_) (fun h35 => ?_)
   ·refine cy aA 12 rfl (by omega) ?_
    refine ai (sC p n cap cf fs cs S key Pd hb hf hn2 _ l2 A (A + bs) (2 * bs + A) (Nat.le_refl _) (by omega) (by omega) (by omega) (hR2.pd (Nat.le_refl _) hpd) (hBr.two hA (by omega)).1 (hBr.two hA (by omega)).2) V.Aj  rfl (aE .nil) rfl ?_
    rintro _ _ ⟨rfl, l3, hr3, iv, rfl⟩
    refine bN aA 16 rfl (by omega) ?_
    rw [show ((2 * bs + A : Nat) : Int) + 2 * (bs : Int) = ((2 * bs + (2 * bs + A) : Nat) : Int) by omega]
    exact j2 (2 * bs + A) _ ⟨⟨Nat.dvd_add (Nat.dvd_refl _) hA, by omega, hR2.trans (hr3.wide (Nat.zero_le _) (by omega)), hBd.step hA hr3 iv, hBr.step (by omega) hr3⟩, by omega⟩ (fO (aX ln)) (sub (aE .nil) ao)
   ·refine cy aA 21 rfl (by omega) ?_
    refine aj rfl (fun h54 => ?_) (fun h54 => ?_)
    ·refine rC aA 6 rfl ?_
     refine ai (sC p n cap cf fs cs S key Pd hb hf hn2 _ l2 A (A + bs) n (Nat.le_refl _) (by omega) (by omega) (by omega) (hR2.pd (Nat.le_refl _) hpd) (hBr.last hA (by omega) (by omega)).1 (hBr.last hA (by omega) (by omega)).2) V.Aj  rfl (aE .nil) rfl ?_
     rintro _ _ ⟨rfl, l3, hr3, iv, rfl⟩
     refine bN aA 8 rfl (by omega) ?_
     rw [show (bs : Int) * 2 = ((2 * bs : Nat) : Int) by omega]
     exact j2 (2 * bs) _ ⟨⟨by omega, hR2.trans (hr3.wide (Nat.zero_le _) (Nat.le_refl _)), hBd.fin hA (by omega) (by omega) hr3 iv⟩, by omega⟩ (dI ln) (sub (aE .nil) ao)
    ·refine cy aA 8 rfl (by omega) ?_
     rw [show (bs : Int) * 2 = ((2 * bs : Nat) : Int) by omega]
     exact j2 (2 * bs) _ ⟨⟨by omega, hR2, hBd.fin hA (by omega) (by omega) (aV.Rl.refl _ _ _) (hBr.one hA (by omega))⟩, by omega⟩ (dI ln) (sub (aE .nil) ao)
  ·refine rC aA 4 rfl ?_
   exact dT dN ⟨rfl, l1, hR1, hBk.all (by omega), rfl⟩ (sub (aE .nil) ao)
theorem Ii (p : Option Addr) (n cap : Nat) (cf : Nat) (fs cs : List Value) (S : ae) (key : Int → Int) (Pd : Int → Prop) (hb : aC Tryz.prog cf = true) (hf : ∀ x y, Pd x → Pd y → aD Tryz.prog cf (fs ++ [.int .i64 x, .int .i64 y] ++ cs) [S] (aK fun v G => v = .int .i64 (ju (key x) (key y)) ∧ G = [S])) (l : List Int) (hn2 : n ≤ 1000000) (hpd : ∀ i, i < n → Pd (l.getD i I3.d)) : aD Tryz.prog 98 [.slice p n cap, .func (.func cf) fs.toArray cs.toArray] [Row I3 p n cap (l), S] (aK fun v G => v = .tuple #[] ∧ ∃ l2, aV.Rl key I3.d l l2 0 n ∧ aV.Sd key I3.d l2 0 n ∧ G = [Row I3 p n cap (l2), S]) := by
 refine ax [(0, _), (1, _)] Tryz.func98 rfl Tryz.ntmps98 rfl rfl ?_
 intro w0 F
 refine rT aA 5 rfl ?_
 refine ai (DH p n cap cf fs cs S key Pd hb hf l hn2 hpd) V.I2  rfl (aE .nil) rfl ?_
 rintro _ _ ⟨rfl, l3, hr3, iv, rfl⟩
 refine bC ?_
 exact dT dN ⟨rfl, l3, hr3, iv, rfl⟩ (sub (aE .nil) ao)
end Go.Proofs.YtmbljkghkcgejaaGreat
