/- Walks of functions that the law reaches, and what they lean on; no conditions. -/
import Derived.Test.YtmaiakpjgomnpaaGreatM0
import Derived.Test.YtmaiakpjgomnpaaGreatM4
import Derived.Test.YtmaiakpjgomnpaaGreatM2
import Derived.Test.YtmaiakpjgomnpaaGreatM1
import Derived.KernelRfl
import Derived.Test.YtmaiakpjgomnpaaGreatM3
set_option linter.unusedVariables false
set_option linter.unusedSimpArgs false
set_option maxRecDepth 100000
namespace Go.Proofs.YtmaiakpjgomnpaaGreat
open Go.Sl 
theorem mn (p : Option Addr) (n cap : Nat) (fv : Value) (P A B C Z : List Int) (a b k0 : Int) (ha : a = P.length) (hbb : b = (P.length + A.length + B.length : Nat)) (hk0 : k0 = A.length) (hC : C.length = A.length) (hn : P.length + A.length + B.length + A.length + Z.length = n) (hn2 : n ≤ 1000000) : az Tryz.prog 256 [.slice p n cap, .int .i64 a, .int .i64 b, .int .i64 k0, fv] [Row I3 p n cap (P ++ A ++ B ++ C ++ Z)] (aG fun v G => v = .tuple #[] ∧ G = [Row I3 p n cap (P ++ C ++ B ++ A ++ Z)]) := by
 refine au [(0, _), (1, _), (2, _), (3, _), (4, _)] Tryz.func256 rfl Tryz.ntmps256 rfl rfl ?_
 intro w0 F
 refine (me) ?_
 rw [show P ++ A ++ B ++ C ++ Z = P ++ (C.take 0 ++ A.drop 0) ++ B ++ (A.take 0 ++ C.drop 0) ++ Z by simp]
 refine cB (fun (k : Nat) => [(0, .slice p n cap), (1, .int .i64 a), (2, .int .i64 b), (3, .int .i64 k0), (10, .int .i64 (k : Int))]) (fun (k : Nat) => Row I3 p n cap (P ++ (C.take k ++ A.drop k) ++ B ++ (A.take k ++ C.drop k) ++ Z) :: F) (fun (k : Nat) => k ≤ A.length) (fun (k : Nat) => A.length - k) (i1 (0) ?_ (bB ln) (sub (aq .nil) ak)) ?_
 ·exact Nat.zero_le _
 intro k
 rintro hk
 refine rL TT 8 rfl ?_
 refine aC rfl (fun h13 => ?_) (fun h13 => ?_)
 ·refine (Q4) ?_
  refine wN [pz 0 [] [0], pz 0 [] [1], pz 0 [] [10], pz 6 [1, 2] [], pz 0 [] [0], pz 0 [] [2], pz 0 [] [10], pz 96 [5, 6] [], pz 0 [] [0], pz 0 [] [2], pz 0 [] [10], pz 1536 [9, 10] [], pz 3840 [8, 11] [], pz 7936 [12] [], pz 0 [] [0], pz 0 [] [1], pz 0 [] [10], pz 98304 [15, 16] [], pz 245760 [14, 17] [], pz 507904 [18] [], pz 1048335 [0, 3] [], pz 2096911 [20, 13] [], pz 4194303 [4, 7] [], pz 8388607 [22, 19] []] [⟨fun y => Row I3 p n cap (P ++ (C.take k ++ A.drop k) ++ B ++ (A.take k ++ C.drop k) ++ Z), none, some 21, [12, 13, 18, 19, 20]⟩, ⟨fun y => Row I3 p n cap ((P ++ (C.take k ++ A.drop k) ++ B ++ (A.take k ++ C.drop k) ++ Z).set (a + (k : Int)).toNat ((I3).g (P ++ (C.take k ++ A.drop k) ++ B ++ (A.take k ++ C.drop k) ++ Z) (b + (k : Int)))), some 21, some 23, [22]⟩, ⟨fun y => Row I3 p n cap (((P ++ (C.take k ++ A.drop k) ++ B ++ (A.take k ++ C.drop k) ++ Z).set (a + (k : Int)).toNat ((I3).g (P ++ (C.take k ++ A.drop k) ++ B ++ (A.take k ++ C.drop k) ++ Z) (b + (k : Int)))).set (b + (k : Int)).toNat ((I3).g (P ++ (C.take k ++ A.drop k) ++ B ++ (A.take k ++ C.drop k) ++ Z) (a + (k : Int)))), some 23, none, []⟩] F V.mixed ?_
  iterate 3 refine nM ?_
  refine (Qy) ?_
  iterate 3 refine nM ?_
  refine (Qy) ?_
  iterate 3 refine nM ?_
  refine nV (fun y hA L => eA rfl rfl wI) ?_
  refine nR (fun y FF hA => xI V.cV (own aB)) ?_
  refine nR (fun y FF hA => xL V.s3 (own aB)) ?_
  iterate 3 refine nM ?_
  refine (Qy) ?_
  refine (l7) ?_
  refine (xB) ?_
  refine (l7) ?_
  refine (vT) ?_
  refine (l7) ?_
  refine (vT) ?_
  refine (Qb) ?_
  intro y hA
  clear hA
  show kr _ _ _ _ (Row I3 p n cap (((P ++ (C.take k ++ A.drop k) ++ B ++ (A.take k ++ C.drop k) ++ Z).set (a + (k : Int)).toNat ((I3).g (P ++ (C.take k ++ A.drop k) ++ B ++ (A.take k ++ C.drop k) ++ Z) (b + (k : Int)))).set (b + (k : Int)).toNat ((I3).g (P ++ (C.take k ++ A.drop k) ++ B ++ (A.take k ++ C.drop k) ++ Z) (a + (k : Int)))) :: F)
  refine jh<|bj<|(Qo)<|(Q7)<|(Ap)<|(pc) ?_
  refine dh ?_
  have e1 : (a + (k : Int)).toNat = P.length + k := by omega
  have e2 : (b + (k : Int)).toNat = P.length + A.length + B.length + k := by omega
  simp only [Ec.g, e1, e2]
  rw [cm.zo (by omega) hC]
  refine j1 (k + 1) ?_ (bB ln) (sub (aq .nil) ak)
  exact ⟨by omega, by omega⟩
 ·refine (Q4) ?_
  have hke : k = A.length := by omega
  subst hke
  rw [show P ++ (C.take A.length ++ A.drop A.length) ++ B ++ (A.take A.length ++ C.drop A.length) ++ Z = P ++ C ++ B ++ A ++ Z by rw [List.drop_length, List.take_length, ← hC, List.take_length, List.drop_length]; simp]
  exact gY eK ⟨rfl, rfl⟩ (sub (aq .nil) ak)
theorem FL (p : Option Addr) (n cap : Nat) (fv : Value) (P X Y Z : List Int) (a m b : Int) (ha : a = P.length) (hm : m = (P.length + X.length : Nat)) (hbb : b = (P.length + X.length + Y.length : Nat)) (hX : 0 < X.length) (hY : 0 < Y.length) (hn : P.length + X.length + Y.length + Z.length = n) (hn2 : n ≤ 1000000) : az Tryz.prog 253 [.slice p n cap, .int .i64 a, .int .i64 m, .int .i64 b, fv] [Row I3 p n cap (P ++ X ++ Y ++ Z)] (aG fun v G => v = .tuple #[] ∧ G = [Row I3 p n cap (P ++ Y ++ X ++ Z)]) := by
 refine au [(0, _), (1, _), (2, _), (3, _), (4, _)] Tryz.func253 rfl Tryz.ntmps253 rfl rfl ?_
 intro w0 F
 refine Fe TT 18 rfl (by omega) ?_
 rw [show m - a = (X.length : Int) by omega, show b - m = (Y.length : Int) by omega]
 refine KL (fun (P2 : List Int) (X2 : List Int) (Y2 : List Int) (Z2 : List Int) => [(0, .slice p n cap), (2, .int .i64 m), (4, fv), (10, .int .i64 (X2.length : Int)), (11, .int .i64 (Y2.length : Int))]) (fun (P2 : List Int) (X2 : List Int) (Y2 : List Int) (Z2 : List Int) => Row I3 p n cap (P2 ++ X2 ++ Y2 ++ Z2) :: F) (fun (P2 : List Int) (X2 : List Int) (Y2 : List Int) (Z2 : List Int) => P2 ++ Y2 ++ X2 ++ Z2 = P ++ Y ++ X ++ Z ∧ m = (P2.length + X2.length : Nat) ∧ 0 < X2.length ∧ 0 < Y2.length ∧ P2.length + X2.length + Y2.length + Z2.length = n) (fun (P2 : List Int) (X2 : List Int) (Y2 : List Int) (Z2 : List Int) => X2.length + Y2.length) (i4 (P) (X) (Y) (Z) ?_ (bB ln) (sub (aq .nil) ak)) ?_
 ·exact ⟨rfl, hm, hX, hY, hn⟩
 intro P2 X2 Y2 Z2
 rintro ⟨hT, hm2, hX2, hY2, hn3⟩
 refine rL TT 8 rfl ?_
 refine aC rfl (fun h20 => ?_) (fun h20 => ?_)
 ·refine (QA) ?_
  refine aC rfl (fun h23 => ?_) (fun h23 => ?_)
  ·refine (Qa) ?_
   obtain ⟨A, B, hX2, hA⟩ : ∃ A B, X2 = A ++ B ∧ A.length = Y2.length := ⟨X2.take Y2.length, X2.drop Y2.length, by simp, by simp; omega⟩
   subst hX2
   rw [← List.append_assoc P2 A B]
   refine (vz) ?_
   refine aj (mn p n cap _ P2 A B Y2 Z2 _ _ _ (by omega) (by (simp only [List.length_append, List.length_nil] at *; omega)) (by omega) (by omega) (by (simp only [List.length_append, List.length_nil] at *; omega)) hn2) V.GZ  rfl (aq .nil) rfl ?_
   rintro _ _ ⟨rfl, rfl⟩
   refine (rA) ?_
   (rw [show (((A ++ B).length : Nat) : Int) - (Y2.length : Int) = (B.length : Int) by simp only [List.length_append]; omega, show (Y2.length : Int) = (A.length : Int) by omega]; simp only [List.length_append] at *; exact j4 (y0 := P2 ++ Y2) (y1 := B) (y2 := A) (y3 := Z2) ⟨⟨by rw [← hT]; simp, by simp only [List.length_append]; omega, by omega, by omega, by simp only [List.length_append]; omega⟩, by omega⟩ (bB ln) (sub (aq .nil) ak))
  ·refine (Qa) ?_
   obtain ⟨B, C2, hY2, hC2⟩ : ∃ B C2, Y2 = B ++ C2 ∧ C2.length = X2.length := ⟨Y2.take (Y2.length - X2.length), Y2.drop (Y2.length - X2.length), by simp, by simp; omega⟩
   subst hY2
   rw [← List.append_assoc (P2 ++ X2) B C2]
   refine (Dd) ?_
   refine aj (mn p n cap _ P2 X2 B C2 Z2 _ _ _ (by omega) (by (simp only [List.length_append, List.length_nil] at *; omega)) (by omega) (by omega) (by (simp only [List.length_append, List.length_nil] at *; omega)) hn2) V.GZ  rfl (aq .nil) rfl ?_
   rintro _ _ ⟨rfl, rfl⟩
   refine (rA) ?_
   (rw [show (((B ++ C2).length : Nat) : Int) - (X2.length : Int) = (B.length : Int) by simp only [List.length_append]; omega, show (X2.length : Int) = (C2.length : Int) by omega, List.append_assoc (P2 ++ C2 ++ B) X2 Z2]; simp only [List.length_append] at *; exact j4 (y0 := P2) (y1 := C2) (y2 := B) (y3 := X2 ++ Z2) ⟨⟨by rw [← hT]; simp, by omega, by omega, by omega, by simp only [List.length_append]; omega⟩, by omega⟩ (bB ln) (sub (aq .nil) ak))
 ·refine (Qe) ?_
  rw [show P2 ++ X2 ++ Y2 ++ Z2 = P2 ++ X2 ++ [] ++ Y2 ++ Z2 by simp]
  refine (vz) ?_
  refine aj (mn p n cap _ P2 X2 [] Y2 Z2 _ _ _ (by omega) (by omega) (by omega) (by omega) (by (simp only [List.length_append, List.length_nil] at *; omega)) hn2) V.GZ  rfl (aq .nil) rfl ?_
  rintro _ _ ⟨rfl, rfl⟩
  refine dh ?_
  rw [show P2 ++ Y2 ++ [] ++ X2 ++ Z2 = P ++ Y ++ X ++ Z by rw [List.append_nil]; exact hT]
  exact gY eK ⟨rfl, rfl⟩ (sub (aq .nil) ak)
set_option maxHeartbeats 4000000 in
theorem o6 (p : Option Addr) (n cap : Nat) (cf : Nat) (fs cs : List Value) (S : ad) (key : Int → Int) (Pd : Int → Prop) (hb : ay Tryz.prog cf = true) (hf : ∀ x y, Pd x → Pd y → az Tryz.prog cf (fs ++ [.int .i64 x, .int .i64 y] ++ cs) [S] (aG fun v G => v = .int .i64 (lr (key x) (key y)) ∧ G = [S])) (l : List Int) (aI bI : Int) (a b : Nat) (ha : aI = a) (hbI : bI = b) (hab : a ≤ b) (hbn : b ≤ n) (hn2 : n ≤ 1000000) (hpd : ∀ i, i < n → Pd (l.getD i I3.d)) : az Tryz.prog 245 [.slice p n cap, .int .i64 aI, .int .i64 bI, .func (.func cf) fs.toArray cs.toArray] [Row I3 p n cap (l), S] (aG fun v G => v = .tuple #[] ∧ ∃ l2, cm.Rl key I3.d l l2 a b ∧ cm.Sd key I3.d l2 a b ∧ G = [Row I3 p n cap (l2), S]) := by
 refine au [(0, _), (1, _), (2, _), (3, _)] Tryz.func245 rfl Tryz.ntmps245 rfl rfl ?_
 intro w0 F
 refine Jg (own aB) (fun hlen => ?_)
 refine Fe TT 8 rfl (by omega) ?_
 rw [show aI + 1 = ((a + 1 : Nat) : Int) by omega]
 refine gp (fun (i : Nat) (l1 : List Int) => [(0, .slice p n cap), (1, .int .i64 aI), (2, .int .i64 bI), (3, .func (.func cf) fs.toArray cs.toArray), (8, .int .i64 (i : Int))]) (fun (i : Nat) (l1 : List Int) => Row I3 p n cap (l1) :: S :: F) (fun (i : Nat) (l1 : List Int) => a + 1 ≤ i ∧ (i ≤ b ∨ i = a + 1) ∧ cm.Rl key I3.d l l1 a b ∧ cm.Sd key I3.d l1 a i) (fun (i : Nat) (l1 : List Int) => b - i) (i2 (a + 1) (_) ?_ (bB ln) (sub (aO .nil) ak)) ?_
 ·exact ⟨Nat.le_refl _, .inr rfl, cm.Rl.refl _ _ _, cm.Sd.small (Nat.le_refl _)⟩
 intro i l1
 rintro ⟨hi1, hi2, hR1, hS1⟩
 refine rL TT 8 rfl ?_
 refine aC rfl (fun h14 => ?_) (fun h14 => ?_)
 ·refine (o5) ?_
  refine gp (fun (j : Nat) (l2 : List Int) => [(0, .slice p n cap), (1, .int .i64 aI), (2, .int .i64 bI), (3, .func (.func cf) fs.toArray cs.toArray), (8, .int .i64 (i : Int)), (9, .int .i64 (j : Int))]) (fun (j : Nat) (l2 : List Int) => Row I3 p n cap (l2) :: S :: F) (fun (j : Nat) (l2 : List Int) => a ≤ j ∧ j ≤ i ∧ cm.Rl key I3.d l l2 a b ∧ cm.Ins key I3.d l2 a j i) (fun (j : Nat) (l2 : List Int) => j) (i2 (i) (_) ?_ (jt (bB ln)) (sub (aO .nil) ak)) ?_
  ·exact ⟨by omega, Nat.le_refl _, hR1, cm.Ins.start hS1⟩
  intro j l2
  rintro ⟨hj1, hj2, hR2, hI2⟩
  refine rL TT 2 rfl ?_
  have hpd2 := hR2.pd (Pd := Pd) hbn hpd
  have hlen2 := hR2.len
  by_cases h20 : aI < (j : Int)
  ·refine wN [pz 0 [] [9], pz 0 [] [1], pz 3 [0, 1] [], pz 7 [2] [], pz 15 [3] [3], pz 15 [3] [0], pz 15 [3] [9], pz 111 [5, 6, 3] [], pz 239 [7, 3] [], pz 15 [3] [0], pz 15 [3] [9], pz 1039 [10, 3] [], pz 3599 [9, 11, 3] [], pz 7695 [12, 3] [], pz 16383 [4, 8, 13, 3] [], pz 32767 [14, 3] [], pz 65535 [3, 15] []] [⟨fun y => Row I3 p n cap (l2), none, none, [7, 8, 12, 13]⟩, ⟨fun y => S, none, some 14, []⟩, ⟨fun y => S, some 14, none, []⟩] F V.mixed ?_
   iterate 2 refine nM ?_
   refine nV (fun y hA L => cQ (dz rfl rfl) h20) ?_
   refine nM ?_
   refine (D4) ?_
   refine (D4) ?_
   refine (D4) ?_
   refine (U9) ?_
   refine (WG) ?_
   refine (D4) ?_
   refine (D4) ?_
   refine (UY) ?_
   refine (U9) ?_
   refine (WG) ?_
   refine nE (fun y FF hA => gO rfl (kl (fs := fs) (cs := cs) (Post := [S]) (hf (I3.g l2 (j : Int)) (I3.g l2 ((j : Int) - 1)) (gP (k := j) (by omega) (hpd2 _ (by omega))) (gP (k := j - 1) (by omega) (hpd2 _ (by omega)))) hb rfl rfl (aq .nil) (fun v G h => by rcases h with ⟨rfl, rfl⟩; exact ⟨rfl, .refl _⟩))) ?_
   refine (Vz) ?_
   refine nV (fun y hA L => nF rfl rfl) ?_
   refine (Qb) ?_
   intro y hA
   clear hA
   refine bj<|(UQ) ?_
   refine bo (M := Row I3 p n cap (l2) :: S :: F) (fun _ _ h => h) ?_
   refine aC rfl (fun h34 => ?_) (fun h34 => ?_)
   ·refine (Q4) ?_
    refine wN [pz 0 [] [0], pz 0 [] [9], pz 0 [] [0], pz 0 [] [9], pz 8 [3] [], pz 0 [] [0], pz 0 [] [9], pz 64 [6] [], pz 224 [5, 7] [], pz 480 [8] [], pz 0 [] [0], pz 0 [] [9], pz 3072 [10, 11] [], pz 7168 [12] [], pz 16355 [0, 1] [], pz 32739 [14, 9] [], pz 65535 [2, 4] [], pz 131071 [16, 13] []] [⟨fun y => Row I3 p n cap (l2), none, some 15, [8, 9, 12, 13, 14]⟩, ⟨fun y => S, none, none, []⟩, ⟨fun y => Row I3 p n cap ((l2).set (j : Int).toNat ((I3).g (l2) ((j : Int) - 1))), some 15, some 17, [16]⟩, ⟨fun y => Row I3 p n cap (((l2).set (j : Int).toNat ((I3).g (l2) ((j : Int) - 1))).set ((j : Int) - 1).toNat ((I3).g (l2) (j : Int))), some 17, none, []⟩] F V.mixed ?_
    iterate 4 refine nM ?_
    refine (ve) ?_
    iterate 2 refine nM ?_
    refine nV (fun y hA L => kV rfl rfl wI) ?_
    refine nR (fun y FF hA => xI V.cV (own aB)) ?_
    refine nR (fun y FF hA => xL V.s3 (own aB)) ?_
    iterate 2 refine nM ?_
    refine (l7) ?_
    refine (xB) ?_
    refine (l7) ?_
    refine (vT) ?_
    refine (l7) ?_
    refine (vT) ?_
    refine (Qb) ?_
    intro y hA
    clear hA
    show kr _ _ _ _ (S :: Row I3 p n cap (((l2).set (j : Int).toNat ((I3).g (l2) ((j : Int) - 1))).set ((j : Int) - 1).toNat ((I3).g (l2) (j : Int))) :: F)
    refine jh<|bj<|(Qo)<|(Q7) ?_
    refine oV (kV rfl rfl wI)<|(pc) ?_
    refine dh ?_
    have hlt := js.1 h34
    rw [gE j (by omega), gE (j - 1) (by omega)] at hlt
    have e1 : ((j : Int) - 1).toNat = j - 1 := by omega
    have e0 : (j : Int).toNat = j := by omega
    simp only [Ec.g, e1, e0]
    rw [show (j : Int) - 1 = ((j - 1 : Nat) : Int) by omega]
    exact j2 (j - 1) _ ⟨⟨by omega, by omega, hR2.trans (cm.Rl.Ie (by omega) (by omega) (by omega) hlt), hI2.step (by omega) hj2 (by omega) hlt⟩, by omega⟩ (jt (bB ln)) (sub (.cons aw (aq .nil)) ak)
   ·refine (Eh) ?_
    exact j2 (i + 1) _ ⟨⟨by omega, by omega, hR2, hI2.fin hj1 (.inr (by have h := Int.not_lt.1 (fun h => h34 (js.2 h)); rw [gE (j - 1) (by omega), gE j (by omega)] at h; exact h))⟩, by omega⟩ (bB ln) (sub (aO .nil) ak)
  ·refine wN [pz 0 [] [9], pz 0 [] [1], pz 3 [0, 1] [], pz 7 [2] [], pz 15 [3] [3], pz 15 [3] [0], pz 15 [3] [9], pz 111 [5, 6, 3] [], pz 239 [7, 3] [], pz 15 [3] [0], pz 15 [3] [9], pz 1039 [10, 3] [], pz 3599 [9, 11, 3] [], pz 7695 [12, 3] [], pz 16383 [4, 8, 13, 3] [], pz 32767 [14, 3] [], pz 65535 [3, 15] []] [⟨fun y => Row I3 p n cap (l2), none, none, []⟩, ⟨fun y => S, none, none, []⟩] F V.mixed ?_
   iterate 2 refine nM ?_
   refine nV (fun y hA L => bV (dz rfl rfl) h20) ?_
   refine nM ?_
   refine (jl) ?_
   refine (jl) ?_
   refine (jl) ?_
   refine (jl) ?_
   refine (jl) ?_
   refine (jl) ?_
   refine (jl) ?_
   refine (jl) ?_
   refine (jl) ?_
   refine (jl) ?_
   refine (jl) ?_
   refine (jl) ?_
   refine nV (fun y hA L => uI rfl rfl) ?_
   refine (Qb) ?_
   intro y hA
   clear hA
   refine bj<|(UQ) ?_
   refine bo (M := Row I3 p n cap (l2) :: S :: F) (fun _ _ h => h)<|(Dd) ?_
   exact j2 (i + 1) _ ⟨⟨by omega, by omega, hR2, hI2.fin hj1 (.inl (by omega))⟩, by omega⟩ (bB ln) (sub (aO .nil) ak)
 ·refine (Q4) ?_
  exact gY eK ⟨rfl, l1, hR1, hS1.sub (Nat.le_refl _) (by omega), rfl⟩ (sub (aO .nil) ak)
set_option maxHeartbeats 16000000 in
theorem Dz (p : Option Addr) (n cap : Nat) (cf : Nat) (fs cs : List Value) (S : ad) (key : Int → Int) (Pd : Int → Prop) (hb : ay Tryz.prog cf = true) (hf : ∀ x y, Pd x → Pd y → az Tryz.prog cf (fs ++ [.int .i64 x, .int .i64 y] ++ cs) [S] (aG fun v G => v = .int .i64 (lr (key x) (key y)) ∧ G = [S])) (l : List Int) (a m b : Nat) (ham : a < m) (hmb : m < b) (hbn : b ≤ n) (hn2 : n ≤ 1000000) (hpd : ∀ i, i < n → Pd (l.getD i I3.d)) (h1 : cm.Sd key I3.d l a m) (h2 : cm.Sd key I3.d l m b) (ih : ∀ (l : List Int) (a2 m2 b2 : Nat), b2 - a2 < b - a → a2 < m2 → m2 < b2 → b2 ≤ n → (∀ i, i < n → Pd (l.getD i I3.d)) → cm.Sd key I3.d l a2 m2 → cm.Sd key I3.d l m2 b2 → az Tryz.prog 246 [.slice p n cap, .int .i64 (a2 : Int), .int .i64 (m2 : Int), .int .i64 (b2 : Int), .func (.func cf) fs.toArray cs.toArray] [Row I3 p n cap (l), S] (aG fun v G => v = .tuple #[] ∧ ∃ l2, cm.Rl key I3.d l l2 a2 b2 ∧ cm.Sd key I3.d l2 a2 b2 ∧ G = [Row I3 p n cap (l2), S])) : az Tryz.prog 246 [.slice p n cap, .int .i64 (a : Int), .int .i64 (m : Int), .int .i64 (b : Int), .func (.func cf) fs.toArray cs.toArray] [Row I3 p n cap (l), S] (aG fun v G => v = .tuple #[] ∧ ∃ l2, cm.Rl key I3.d l l2 a b ∧ cm.Sd key I3.d l2 a b ∧ G = [Row I3 p n cap (l2), S]) := by
 refine au [(0, _), (1, _), (2, _), (3, _), (4, _)] Tryz.func246 rfl Tryz.ntmps246 rfl rfl ?_
 intro w0 F
 refine Jg (own aB) (fun hlen => ?_)
 refine Fe TT 9 rfl (by omega) ?_
 refine aC rfl (fun h28 => ?_) (fun h28 => ?_)
 ·refine rC TT 14 rfl ?_
  refine gp (fun (i : Nat) (j : Nat) => [(0, .slice p n cap), (1, .int .i64 (a : Int)), (4, .func (.func cf) fs.toArray cs.toArray), (10, .int .i64 (i : Int)), (11, .int .i64 (j : Int))]) (fun (i : Nat) (j : Nat) => Row I3 p n cap (l) :: S :: F) (fun (i : Nat) (j : Nat) => m ≤ i ∧ i ≤ j ∧ j ≤ b ∧ (∀ x, m ≤ x → x < i → key (l.getD x I3.d) < key (l.getD a I3.d)) ∧ (∀ x, j ≤ x → x < b → key (l.getD a I3.d) ≤ key (l.getD x I3.d))) (fun (i : Nat) (j : Nat) => j - i) (i2 (m) (b) ?_ (bB ln) (sub (aO .nil) ak)) ?_
  ·exact ⟨Nat.le_refl _, by omega, Nat.le_refl _, fun x x1 x2 => by omega, fun x x1 x2 => by omega⟩
  intro i j
  rintro ⟨hi1, hij, hj1, hlo, hhi⟩
  refine rL TT 8 rfl ?_
  refine aC rfl (fun h33 => ?_) (fun h33 => ?_)
  ·refine (vz)<|(Eu)<|(IK)<|(Ik)<|(pc) ?_
   obtain ⟨h, hhh⟩ : ∃ h : Nat, h = (i + j) / 2 := ⟨_, rfl⟩
   rw [show ((i : Int) + (j : Int)) / 2 = ((h : Nat) : Int) by omega]
   refine (Qi) ?_
   refine wN [pz 0 [] [4], pz 0 [] [0], pz 0 [] [12], pz 6 [1, 2] [], pz 14 [3] [], pz 0 [] [0], pz 0 [] [1], pz 96 [5, 6] [], pz 224 [7] [], pz 511 [0, 4, 8] [], pz 1023 [9] []] [⟨fun y => Row I3 p n cap (l), none, none, [3, 4, 7, 8]⟩, ⟨fun y => S, none, some 9, []⟩, ⟨fun y => S, some 9, none, []⟩] F V.mixed ?_
   iterate 3 refine nM ?_
   refine nR (fun y FF hA => xI V.cV (own aB)) ?_
   refine nR (fun y FF hA => xL V.s3 (own aB)) ?_
   iterate 2 refine nM ?_
   refine nR (fun y FF hA => xI V.cV (own aB)) ?_
   refine nR (fun y FF hA => xL V.s3 (own aB)) ?_
   refine nE (fun y FF hA => kl (fs := fs) (cs := cs) (Post := [S]) (hf (I3.g l (h : Int)) (I3.g l (a : Int)) (gP (k := h) (by omega) (hpd _ (by omega))) (gP (k := a) (by omega) (hpd _ (by omega)))) hb rfl rfl (aq .nil) (fun v G h => by rcases h with ⟨rfl, rfl⟩; exact ⟨rfl, .refl _⟩)) ?_
   refine nV (fun y hA L => dV rfl rfl) ?_
   refine cG ?_
   intro y hA
   clear hA
   refine bj<|bE _ (.cons (d := 0) rfl (.cons (d := 1) rfl (.cons (d := 4) rfl (.cons (d := 10) rfl (.cons (d := 11) rfl (.cons (d := 12) rfl (.cons (d := 50) rfl (.nil _))))))))<|(NV) ?_
   refine aC rfl (fun h50 => ?_) (fun h50 => ?_)
   ·refine (C8) ?_
    exact j2 (h + 1) j ⟨⟨by omega, by omega, by omega, cm.T1 h2 (by omega) (by omega) (by have q := js.1 h50; rw [gE (h) (by omega), gE (a) (by omega)] at q; exact q), hhi⟩, by omega⟩ (bB ln) (sub (aO .nil) ak)
   ·refine (Qe) ?_
    exact j2 i h ⟨⟨by omega, by omega, by omega, hlo, cm.Uz h2 (by omega) (by omega) (by have q := Int.not_lt.1 (fun z => h50 (js.2 z)); rw [gE (a) (by omega), gE (h) (by omega)] at q; exact q)⟩, by omega⟩ (bB ln) (sub (aO .nil) ak)
  ·refine (Qs) ?_
   have hij : i = j := by omega
   subst hij
   have hma : m = a + 1 := by omega
   subst hma
   refine (Qc) ?_
   refine gp (fun (k : Nat) (l2 : List Int) => [(0, .slice p n cap), (10, .int .i64 (i : Int)), (13, .int .i64 (k : Int))]) (fun (k : Nat) (l2 : List Int) => Row I3 p n cap (l2) :: S :: F) (fun (k : Nat) (l2 : List Int) => a ≤ k ∧ k ≤ i - 1 ∧ cm.Mv key I3.d l l2 a b k) (fun (k : Nat) (l2 : List Int) => i - k) (i2 (a) (l) ?_ (gK ln) (sub (aO .nil) ak)) ?_
   ·exact ⟨Nat.le_refl _, by omega, cm.Mv.start _ _ _⟩
   intro k l2
   rintro ⟨hk1, hk2, hMv⟩
   refine VI TT 9 rfl (by omega) ?_
   refine aC rfl (fun h58 => ?_) (fun h58 => ?_)
   ·refine (Q4) ?_
    refine wN [pz 0 [] [0], pz 0 [] [13], pz 0 [] [0], pz 0 [] [13], pz 8 [3] [], pz 0 [] [0], pz 0 [] [13], pz 64 [6] [], pz 224 [5, 7] [], pz 480 [8] [], pz 0 [] [0], pz 0 [] [13], pz 3072 [10, 11] [], pz 7168 [12] [], pz 16355 [0, 1] [], pz 32739 [14, 9] [], pz 65535 [2, 4] [], pz 131071 [16, 13] []] [⟨fun y => Row I3 p n cap (l2), none, some 15, [8, 9, 12, 13, 14]⟩, ⟨fun y => S, none, none, []⟩, ⟨fun y => Row I3 p n cap ((l2).set (k : Int).toNat ((I3).g (l2) ((k : Int) + 1))), some 15, some 17, [16]⟩, ⟨fun y => Row I3 p n cap (((l2).set (k : Int).toNat ((I3).g (l2) ((k : Int) + 1))).set ((k : Int) + 1).toNat ((I3).g (l2) (k : Int))), some 17, none, []⟩] F V.mixed ?_
    iterate 4 refine nM ?_
    refine (Qy) ?_
    iterate 2 refine nM ?_
    refine nV (fun y hA L => eA rfl rfl wI) ?_
    refine nR (fun y FF hA => xI V.cV (own aB)) ?_
    refine nR (fun y FF hA => xL V.s3 (own aB)) ?_
    iterate 2 refine nM ?_
    refine (l7) ?_
    refine (xB) ?_
    refine (l7) ?_
    refine (vT) ?_
    refine (l7) ?_
    refine (vT) ?_
    refine (Qb) ?_
    intro y hA
    clear hA
    show kr _ _ _ _ (S :: Row I3 p n cap (((l2).set (k : Int).toNat ((I3).g (l2) ((k : Int) + 1))).set ((k : Int) + 1).toNat ((I3).g (l2) (k : Int))) :: F)
    refine jh<|bj<|(Qo)<|(Q7)<|(Ap)<|(pc) ?_
    refine dh ?_
    have hlen2 := hMv.rl.len
    have e1 : ((k : Int) + 1).toNat = k + 1 := by omega
    have e0 : (k : Int).toNat = k := by omega
    simp only [Ec.g, e1, e0]
    exact j2 (k + 1) _ ⟨⟨by omega, by omega, hMv.step (by omega) (by omega) (by omega) (hlo _ (by omega) (by omega))⟩, by omega⟩ (gK ln) (sub (.cons aw (aq .nil)) ak)
   ·refine (Qs) ?_
    have hke : k = i - 1 := by omega
    subst hke
    exact af eK ⟨rfl, l2, hMv.rl, hMv.fin (by omega) (by omega) h2 hlo hhi, rfl⟩ (sub (aO .nil) ak)
 ·refine (Eh) ?_
  refine aC rfl (fun h80 => ?_) (fun h80 => ?_)
  ·refine rC TT 14 rfl ?_
   refine gp (fun (i : Nat) (j : Nat) => [(0, .slice p n cap), (2, .int .i64 (m : Int)), (4, .func (.func cf) fs.toArray cs.toArray), (14, .int .i64 (i : Int)), (15, .int .i64 (j : Int))]) (fun (i : Nat) (j : Nat) => Row I3 p n cap (l) :: S :: F) (fun (i : Nat) (j : Nat) => a ≤ i ∧ i ≤ j ∧ j ≤ m ∧ (∀ x, a ≤ x → x < i → key (l.getD x I3.d) ≤ key (l.getD m I3.d)) ∧ (∀ x, j ≤ x → x < m → key (l.getD m I3.d) < key (l.getD x I3.d))) (fun (i : Nat) (j : Nat) => j - i) (i2 (a) (m) ?_ (bB ln) (sub (aO .nil) ak)) ?_
   ·exact ⟨Nat.le_refl _, by omega, Nat.le_refl _, fun x x1 x2 => by omega, fun x x1 x2 => by omega⟩
   intro i j
   rintro ⟨hi1, hij, hj1, hlo, hhi⟩
   refine rL TT 8 rfl ?_
   refine aC rfl (fun h85 => ?_) (fun h85 => ?_)
   ·refine (vz)<|(Eu)<|(IK)<|(Ik)<|(pc) ?_
    obtain ⟨h, hhh⟩ : ∃ h : Nat, h = (i + j) / 2 := ⟨_, rfl⟩
    rw [show ((i : Int) + (j : Int)) / 2 = ((h : Nat) : Int) by omega]
    refine (Qi) ?_
    refine wN [pz 0 [] [4], pz 0 [] [0], pz 0 [] [2], pz 6 [1, 2] [], pz 14 [3] [], pz 0 [] [0], pz 0 [] [16], pz 96 [5, 6] [], pz 224 [7] [], pz 511 [0, 4, 8] [], pz 1023 [9] [], pz 2047 [10] []] [⟨fun y => Row I3 p n cap (l), none, none, [3, 4, 7, 8]⟩, ⟨fun y => S, none, some 9, []⟩, ⟨fun y => S, some 9, none, []⟩] F V.mixed ?_
    iterate 3 refine nM ?_
    refine (l7) ?_
    refine (xB) ?_
    iterate 2 refine nM ?_
    refine nR (fun y FF hA => xI V.cV (own aB)) ?_
    refine nR (fun y FF hA => xL V.s3 (own aB)) ?_
    refine nE (fun y FF hA => kl (fs := fs) (cs := cs) (Post := [S]) (hf (I3.g l (m : Int)) (I3.g l (h : Int)) (gP (k := m) (by omega) (hpd _ (by omega))) (gP (k := h) (by omega) (hpd _ (by omega)))) hb rfl rfl (aq .nil) (fun v G h => by rcases h with ⟨rfl, rfl⟩; exact ⟨rfl, .refl _⟩)) ?_
    refine nV (fun y hA L => dV rfl rfl) ?_
    refine nV (fun y hA L => Fw rfl) ?_
    refine cG ?_
    intro y hA
    clear hA
    refine bj<|bE _ (.cons (d := 0) rfl (.cons (d := 2) rfl (.cons (d := 4) rfl (.cons (d := 14) rfl (.cons (d := 15) rfl (.cons (d := 16) rfl (.cons (d := 103) rfl (.nil _))))))))<|(NV) ?_
    refine aC rfl (fun h103 => ?_) (fun h103 => ?_)
    ·refine (C8) ?_
     exact j2 (h + 1) j ⟨⟨by omega, by omega, by omega, cm.TD h1 (by omega) (by omega) (by have q := Int.not_lt.1 (fun z => h103 (js.2 z)); rw [gE (h) (by omega), gE (m) (by omega)] at q; exact q), hhi⟩, by omega⟩ (bB ln) (sub (aO .nil) ak)
    ·refine (Qe) ?_
     exact j2 i h ⟨⟨by omega, by omega, by omega, hlo, cm.Tq h1 (by omega) (by omega) (by have q := js.1 (Classical.not_not.1 h103); rw [gE (m) (by omega), gE (h) (by omega)] at q; exact q)⟩, by omega⟩ (bB ln) (sub (aO .nil) ak)
   ·refine (Qs) ?_
    have hij : i = j := by omega
    subst hij
    have hbm : b = m + 1 := by omega
    refine (Qc) ?_
    refine gp (fun (k : Nat) (l2 : List Int) => [(0, .slice p n cap), (14, .int .i64 (i : Int)), (17, .int .i64 (k : Int))]) (fun (k : Nat) (l2 : List Int) => Row I3 p n cap (l2) :: S :: F) (fun (k : Nat) (l2 : List Int) => i ≤ k ∧ k ≤ m ∧ cm.Mw key I3.d l l2 a b m k) (fun (k : Nat) (l2 : List Int) => k) (i2 (m) (l) ?_ (gK ln) (sub (aO .nil) ak)) ?_
    ·exact ⟨by omega, Nat.le_refl _, cm.Mw.start _ _ _ _⟩
    intro k l2
    rintro ⟨hk1, hk2, hMw⟩
    refine rL TT 8 rfl ?_
    refine aC rfl (fun h110 => ?_) (fun h110 => ?_)
    ·refine (Q4) ?_
     refine wN [pz 0 [] [0], pz 0 [] [17], pz 0 [] [0], pz 0 [] [17], pz 8 [3] [], pz 0 [] [0], pz 0 [] [17], pz 64 [6] [], pz 224 [5, 7] [], pz 480 [8] [], pz 0 [] [0], pz 0 [] [17], pz 3072 [10, 11] [], pz 7168 [12] [], pz 16355 [0, 1] [], pz 32739 [14, 9] [], pz 65535 [2, 4] [], pz 131071 [16, 13] []] [⟨fun y => Row I3 p n cap (l2), none, some 15, [8, 9, 12, 13, 14]⟩, ⟨fun y => S, none, none, []⟩, ⟨fun y => Row I3 p n cap ((l2).set (k : Int).toNat ((I3).g (l2) ((k : Int) - 1))), some 15, some 17, [16]⟩, ⟨fun y => Row I3 p n cap (((l2).set (k : Int).toNat ((I3).g (l2) ((k : Int) - 1))).set ((k : Int) - 1).toNat ((I3).g (l2) (k : Int))), some 17, none, []⟩] F V.mixed ?_
     iterate 4 refine nM ?_
     refine (ve) ?_
     iterate 2 refine nM ?_
     refine nV (fun y hA L => kV rfl rfl wI) ?_
     refine nR (fun y FF hA => xI V.cV (own aB)) ?_
     refine nR (fun y FF hA => xL V.s3 (own aB)) ?_
     iterate 2 refine nM ?_
     refine (l7) ?_
     refine (xB) ?_
     refine (l7) ?_
     refine (vT) ?_
     refine (l7) ?_
     refine (vT) ?_
     refine (Qb) ?_
     intro y hA
     clear hA
     show kr _ _ _ _ (S :: Row I3 p n cap (((l2).set (k : Int).toNat ((I3).g (l2) ((k : Int) - 1))).set ((k : Int) - 1).toNat ((I3).g (l2) (k : Int))) :: F)
     refine jh<|bj<|(Qo)<|(Q7) ?_
     refine oV (kV rfl rfl wI)<|(pc) ?_
     refine dh ?_
     have hlen2 := hMw.rl.len
     have e1 : ((k : Int) - 1).toNat = k - 1 := by omega
     have e0 : (k : Int).toNat = k := by omega
     simp only [Ec.g, e1, e0]
     rw [show (k : Int) - 1 = ((k - 1 : Nat) : Int) by omega]
     exact j2 (k - 1) _ ⟨⟨by omega, by omega, hMw.step (by omega) (by omega) (by omega) (by omega) (hhi _ (by omega) (by omega))⟩, by omega⟩ (gK ln) (sub (.cons aw (aq .nil)) ak)
    ·refine (Qs) ?_
     have hke : k = i := by omega
     subst hke
     exact af eK ⟨rfl, l2, hMw.rl, hMw.fin (by omega) (by omega) hbm h1 hlo hhi, rfl⟩ (sub (aO .nil) ak)
  ·refine jW TT 7 rfl (by omega)<|(Eu)<|(IK)<|(Ik)<|(pc) ?_
   obtain ⟨mid, hmidmid⟩ : ∃ mid : Nat, mid = (a + b) / 2 := ⟨_, rfl⟩
   rw [show ((a : Int) + (b : Int)) / 2 = ((mid : Nat) : Int) by omega]
   refine gV TT 16 rfl (by omega) ?_
   refine zX (fun (st0 : Nat) (r0 : Nat) => [(0, .slice p n cap), (1, .int .i64 (a : Int)), (2, .int .i64 (m : Int)), (3, .int .i64 (b : Int)), (4, .func (.func cf) fs.toArray cs.toArray), (18, .int .i64 (mid : Int)), (19, .int .i64 ((mid : Int) + (m : Int))), (20, .int .i64 (st0 : Int)), (21, .int .i64 (r0 : Int))]) (fun (st0 : Nat) (r0 : Nat) => Row I3 p n cap (l) :: S :: F) (fun (st0 : Nat) (r0 : Nat) => st0 = (if mid < m then mid + m - b else a) ∧ r0 = (if mid < m then mid else m)) ?_ ?_
   ·refine rL TT 7 rfl ?_
    refine aC rfl (fun h140 => ?_) (fun h140 => ?_)
    ·refine (Dd) ?_
     (rw [show (mid : Int) + (m : Int) - (b : Int) = ((mid + m - b : Nat) : Int) by omega]; exact j2 (mid + m - b) mid ⟨(if_pos (by omega)).symm, (if_pos (by omega)).symm⟩ (eG (bB ln)) (sub (aO .nil) ak))
    ·refine (QA) ?_
     exact j2 a m ⟨(if_neg (by omega)).symm, (if_neg (by omega)).symm⟩ (eG (bB ln)) (sub (aO .nil) ak)
   ·intro st0 r0
    rintro hst
    have hb0 : a ≤ st0 ∧ st0 ≤ r0 ∧ r0 ≤ m ∧ r0 ≤ mid ∧ mid + m ≤ st0 + b ∧ mid < b := by obtain ⟨e0, e1⟩ := hst; split at e0 <;> split at e1 <;> omega
    refine jW TT 9 rfl (by omega) ?_
    refine gp (fun (s : Nat) (r : Nat) => [(0, .slice p n cap), (1, .int .i64 (a : Int)), (2, .int .i64 (m : Int)), (3, .int .i64 (b : Int)), (4, .func (.func cf) fs.toArray cs.toArray), (18, .int .i64 (mid : Int)), (19, .int .i64 ((mid : Int) + (m : Int))), (20, .int .i64 (s : Int)), (21, .int .i64 (r : Int)), (22, .int .i64 (((mid : Int) + (m : Int)) - 1))]) (fun (s : Nat) (r : Nat) => Row I3 p n cap (l) :: S :: F) (fun (s : Nat) (r : Nat) => st0 ≤ s ∧ s ≤ r ∧ r ≤ r0 ∧ (∀ x, st0 ≤ x → x < s → key (l.getD x I3.d) ≤ key (l.getD (mid + m - 1 - x) I3.d)) ∧ (∀ x, r ≤ x → x < r0 → key (l.getD (mid + m - 1 - x) I3.d) < key (l.getD x I3.d))) (fun (s : Nat) (r : Nat) => r - s) (i2 (st0) (r0) ?_ (bB (bB ln)) (sub (aO .nil) ak)) ?_
    ·exact ⟨Nat.le_refl _, by omega, Nat.le_refl _, fun x x1 x2 => by omega, fun x x1 x2 => by omega⟩
    intro s r
    rintro ⟨hs1, hsr1, hr1, hy, hno⟩
    refine rL TT 8 rfl ?_
    refine aC rfl (fun h151 => ?_) (fun h151 => ?_)
    ·refine (vz)<|(Eu)<|(IK)<|(Ik)<|(pc) ?_
     obtain ⟨h, hhh⟩ : ∃ h : Nat, h = (s + r) / 2 := ⟨_, rfl⟩
     rw [show ((s : Int) + (r : Int)) / 2 = ((h : Nat) : Int) by omega]
     refine (Qi) ?_
     refine wN [pz 0 [] [4], pz 0 [] [0], pz 0 [] [22], pz 0 [] [23], pz 12 [2, 3] [], pz 30 [1, 4] [], pz 62 [5] [], pz 0 [] [0], pz 0 [] [23], pz 384 [7, 8] [], pz 896 [9] [], pz 2047 [0, 6, 10] [], pz 4095 [11] [], pz 8191 [12] []] [⟨fun y => Row I3 p n cap (l), none, none, [5, 6, 9, 10]⟩, ⟨fun y => S, none, some 11, []⟩, ⟨fun y => S, some 11, none, []⟩] F V.mixed ?_
     iterate 4 refine nM ?_
     refine (ve) ?_
     refine (l7) ?_
     refine (xB) ?_
     iterate 2 refine nM ?_
     refine nR (fun y FF hA => xI V.cV (own aB)) ?_
     refine nR (fun y FF hA => xL V.s3 (own aB)) ?_
     refine nE (fun y FF hA => kl (fs := fs) (cs := cs) (Post := [S]) (hf (I3.g l ((((mid : Int) + (m : Int)) - 1) - (h : Int))) (I3.g l (h : Int)) (gP (k := mid + m - 1 - h) (by omega) (hpd _ (by omega))) (gP (k := h) (by omega) (hpd _ (by omega)))) hb rfl rfl (aq .nil) (fun v G h => by rcases h with ⟨rfl, rfl⟩; exact ⟨rfl, .refl _⟩)) ?_
     refine nV (fun y hA L => dV rfl rfl) ?_
     refine nV (fun y hA L => Fw rfl) ?_
     refine cG ?_
     intro y hA
     clear hA
     refine bj<|bE _ (.cons (d := 0) rfl (.cons (d := 1) rfl (.cons (d := 2) rfl (.cons (d := 3) rfl (.cons (d := 4) rfl (.cons (d := 18) rfl (.cons (d := 19) rfl (.cons (d := 20) rfl (.cons (d := 21) rfl (.cons (d := 22) rfl (.cons (d := 23) rfl (.cons (d := 171) rfl (.nil _)))))))))))))<|(NV) ?_
     refine aC rfl (fun h171 => ?_) (fun h171 => ?_)
     ·refine (C8) ?_
      exact j2 (h + 1) r ⟨⟨by omega, by omega, by omega, cm.PY ham hmb hmidmid h1 h2 hst.1 hst.2 (by omega) (by omega) (by have q := Int.not_lt.1 (fun z => h171 (js.2 z)); rw [gE (h) (by omega), gE (mid + m - 1 - h) (by omega)] at q; exact q), hno⟩, by omega⟩ (bB (bB ln)) (sub (aO .nil) ak)
     ·refine (Qe) ?_
      exact j2 s h ⟨⟨by omega, by omega, by omega, hy, cm.Ny ham hmb hmidmid h1 h2 hst.1 hst.2 (by omega) (by omega) (by have q := js.1 (Classical.not_not.1 h171); rw [gE (mid + m - 1 - h) (by omega), gE (h) (by omega)] at q; exact q)⟩, by omega⟩ (bB (bB ln)) (sub (aO .nil) ak)
    ·refine (Qc) ?_
     have hsr : s = r := by omega
     subst hsr
     obtain ⟨q1, q2, q3, q4, q5, q6, hlt, hc⟩ := cm.Gm (by omega) ham hmb hmidmid h1 h2 (by rw [← hst.1]; omega) (by rw [← hst.2]; omega) (fun hh => hy (s - 1) (by rw [← hst.1] at hh; omega) (by rw [← hst.1] at hh; omega)) (fun hh => hno s (Nat.le_refl _) (by rw [← hst.2] at hh; omega))
     refine jW TT 5 rfl (by omega) ?_
     obtain ⟨e, he⟩ : ∃ e : Nat, e = mid + m - s := ⟨_, rfl⟩
     rw [show (mid : Int) + (m : Int) - (s : Int) = ((e : Nat) : Int) by omega]
     refine (Q6) ?_
     refine jF (fun (l1 : List Int) => [(0, .slice p n cap), (1, .int .i64 (a : Int)), (3, .int .i64 (b : Int)), (4, .func (.func cf) fs.toArray cs.toArray), (18, .int .i64 (mid : Int)), (20, .int .i64 (s : Int)), (24, .int .i64 (e : Int))]) (fun (l1 : List Int) => Row I3 p n cap (l1) :: S :: F) (fun (l1 : List Int) => cm.mJ key I3.d l l1 a s mid e b) ?_ ?_
     ·refine (Qm) ?_
      refine kh 181 rfl (fun h181 => ?_) (fun h181 => ?_)
      ·refine (Q1) ?_
       refine aC rfl (fun h185 => ?_) (fun h185 => ?_)
       ·obtain ⟨Pp, X, Y, Z, hl, hP, hX, hY, hXm, hYm⟩ := cm.blocks (d := I3.d) l s m e (by omega) (by omega) (by omega)
        subst hl
        refine (Qc) ?_
        refine aj (FL p n cap _ Pp X Y Z (s : Int) (m : Int) (e : Int) (by omega) (by omega) (by omega) (by omega) (by omega) (by simp only [List.length_append] at hlen; omega) hn2) V.Xp  rfl (aq .nil) rfl ?_
        rintro _ _ ⟨rfl, rfl⟩
        refine dh ?_
        refine j1 (_) ?_ (gI (bB ln)) (sub (aO .nil) ak)
        (subst he; exact cm.mJ.Yx hP hX (by omega) h1 h2 ⟨q1, q2, q3, q4, q5, q6⟩ (hlt (by omega) (by omega)) hc hXm hYm)
       ·refine (Qa) ?_
        refine j1 (_) ?_ (gI (bB ln)) (sub (aO .nil) ak)
        (subst he; exact cm.mJ.stay h1 h2 ⟨q1, q2, q3, q4, q5, q6⟩ hc (by omega))
      ·refine (Qk) ?_
       refine j1 (_) ?_ (gI (bB ln)) (sub (aO .nil) ak)
       (subst he; exact cm.mJ.stay h1 h2 ⟨q1, q2, q3, q4, q5, q6⟩ hc (by omega))
     ·intro l1
      rintro hPt
      refine jF (fun (l2 : List Int) => [(0, .slice p n cap), (3, .int .i64 (b : Int)), (4, .func (.func cf) fs.toArray cs.toArray), (18, .int .i64 (mid : Int)), (24, .int .i64 (e : Int))]) (fun (l2 : List Int) => Row I3 p n cap (l2) :: S :: F) (fun (l2 : List Int) => cm.Rl key I3.d l1 l2 a mid ∧ cm.Sd key I3.d l2 a mid) ?_ ?_
      ·refine (Qm) ?_
       refine kh 195 rfl (fun h195 => ?_) (fun h195 => ?_)
       ·refine (Q1) ?_
        refine aC rfl (fun h199 => ?_) (fun h199 => ?_)
        ·refine (Qc) ?_
         refine aj (ih l1 a s mid (by omega) (by omega) (by omega) (by omega) (hPt.rl.pd (by omega) hpd) hPt.s1 hPt.s2) V.Bw  rfl (aO .nil) rfl ?_
         rintro _ _ ⟨rfl, l2, hr2, hs2, rfl⟩
         refine dh ?_
         refine j1 (_) ?_ (bB ln) (sub (aO .nil) ak)
         exact ⟨hr2, hs2⟩
        ·refine (Qa) ?_
         refine j1 (_) ?_ (bB ln) (sub (aO .nil) ak)
         exact ⟨cm.Rl.refl _ _ _, cm.Sd.join hPt.s1 hPt.s2 (fun i j i1 i2 j1 j2 => by omega)⟩
       ·refine (Qk) ?_
        refine j1 (_) ?_ (bB ln) (sub (aO .nil) ak)
        exact ⟨cm.Rl.refl _ _ _, cm.Sd.join hPt.s1 hPt.s2 (fun i j i1 i2 j1 j2 => by omega)⟩
      ·intro l2
       rintro ⟨hR2, hS2⟩
       refine (Qc) ?_
       refine kh 209 rfl (fun h209 => ?_) (fun h209 => ?_)
       ·refine (Q1) ?_
        refine aC rfl (fun h213 => ?_) (fun h213 => ?_)
        ·refine (Qc) ?_
         refine aj (ih l2 mid e b (by omega) (by omega) (by omega) (by omega) (hR2.pd (by omega) (hPt.rl.pd (by omega) hpd)) (hPt.s3.congr (fun i i1 i2 => hR2.out i (by omega))) (hPt.s4.congr (fun i i1 i2 => hR2.out i (by omega)))) V.Bw  rfl (aO .nil) rfl ?_
         rintro _ _ ⟨rfl, l3, hr3, mC, rfl⟩
         exact dh<|gY eK ⟨rfl, l3, hPt.rl.trans ((hR2.wide (Nat.le_refl _) (by omega)).trans (hr3.wide (by omega) (Nat.le_refl _))), cm.Sd.join (hS2.congr (fun i i1 i2 => hr3.out i (by omega))) mC (cm.zq (cm.n6 hPt.cr hR2) hr3), rfl⟩ (sub (aO .nil) ak)
        ·refine (Qa) ?_
         exact gY eK ⟨rfl, l2, hPt.rl.trans (hR2.wide (Nat.le_refl _) (by omega)), cm.Sd.join hS2 (cm.Sd.join (hPt.s3.congr (fun i i1 i2 => hR2.out i (by omega))) (hPt.s4.congr (fun i i1 i2 => hR2.out i (by omega))) (fun i j i1 i2 j1 j2 => by omega)) (cm.n6 hPt.cr hR2), rfl⟩ (sub (aO .nil) ak)
       ·refine (Qk) ?_
        exact gY eK ⟨rfl, l2, hPt.rl.trans (hR2.wide (Nat.le_refl _) (by omega)), cm.Sd.join hS2 (cm.Sd.join (hPt.s3.congr (fun i i1 i2 => hR2.out i (by omega))) (hPt.s4.congr (fun i i1 i2 => hR2.out i (by omega))) (fun i j i1 i2 j1 j2 => by omega)) (cm.n6 hPt.cr hR2), rfl⟩ (sub (aO .nil) ak)
theorem sD (p : Option Addr) (n cap : Nat) (cf : Nat) (fs cs : List Value) (S : ad) (key : Int → Int) (Pd : Int → Prop) (hb : ay Tryz.prog cf = true) (hf : ∀ x y, Pd x → Pd y → az Tryz.prog cf (fs ++ [.int .i64 x, .int .i64 y] ++ cs) [S] (aG fun v G => v = .int .i64 (lr (key x) (key y)) ∧ G = [S])) (hn2 : n ≤ 1000000) : ∀ (k : Nat) (l : List Int) (a m b : Nat), b - a ≤ k → a < m → m < b → b ≤ n → (∀ i, i < n → Pd (l.getD i I3.d)) → cm.Sd key I3.d l a m → cm.Sd key I3.d l m b → az Tryz.prog 246 [.slice p n cap, .int .i64 (a : Int), .int .i64 (m : Int), .int .i64 (b : Int), .func (.func cf) fs.toArray cs.toArray] [Row I3 p n cap (l), S] (aG fun v G => v = .tuple #[] ∧ ∃ l2, cm.Rl key I3.d l l2 a b ∧ cm.Sd key I3.d l2 a b ∧ G = [Row I3 p n cap (l2), S])
 | 0, l, a, m, b, hk, ham, hmb, hbn, hpd, h1, h2 => by omega
 | k + 1, l, a, m, b, hk, ham, hmb, hbn, hpd, h1, h2 => Dz p n cap cf fs cs S key Pd hb hf l a m b ham hmb hbn hn2 hpd h1 h2 (fun l a2 m2 b2 hlt q1 q2 q3 q4 q5 q6 => sD p n cap cf fs cs S key Pd hb hf hn2 k l a2 m2 b2 (by omega) q1 q2 q3 q4 q5 q6)
set_option maxHeartbeats 8000000 in
theorem Dl (p : Option Addr) (n cap : Nat) (cf : Nat) (fs cs : List Value) (S : ad) (key : Int → Int) (Pd : Int → Prop) (hb : ay Tryz.prog cf = true) (hf : ∀ x y, Pd x → Pd y → az Tryz.prog cf (fs ++ [.int .i64 x, .int .i64 y] ++ cs) [S] (aG fun v G => v = .int .i64 (lr (key x) (key y)) ∧ G = [S])) (l : List Int) (hn2 : n ≤ 1000000) (hpd : ∀ i, i < n → Pd (l.getD i I3.d)) : az Tryz.prog 229 [.slice p n cap, .int .i64 (n : Int), .func (.func cf) fs.toArray cs.toArray] [Row I3 p n cap (l), S] (aG fun v G => v = .tuple #[] ∧ ∃ l2, cm.Rl key I3.d l l2 0 n ∧ cm.Sd key I3.d l2 0 n ∧ G = [Row I3 p n cap (l2), S]) := by
 refine au [(0, _), (1, _), (2, _)] Tryz.func229 rfl Tryz.ntmps229 rfl rfl ?_
 intro w0 F
 refine rT TT 14 rfl ?_
 refine gp (fun (A : Nat) (l1 : List Int) => [(0, .slice p n cap), (1, .int .i64 (n : Int)), (2, .func (.func cf) fs.toArray cs.toArray), (6, .int .i64 20), (7, .int .i64 (A : Int)), (8, .int .i64 ((20 + A : Nat) : Int))]) (fun (A : Nat) (l1 : List Int) => Row I3 p n cap (l1) :: S :: F) (fun (A : Nat) (l1 : List Int) => 20 ∣ A ∧ A ≤ n ∧ cm.Rl key I3.d l l1 0 n ∧ cm.Bd key I3.d l1 20 A) (fun (A : Nat) (l1 : List Int) => n - A) (i2 (0) (l) ?_ (jt (bB ln)) (sub (aO .nil) ak)) ?_
 ·exact ⟨Nat.dvd_zero _, Nat.zero_le _, cm.Rl.refl _ _ _, cm.Bd.zero _ _ (by decide)⟩
 intro A l1
 rintro ⟨hA, hAn, hR1, hBd⟩
 refine rL TT 8 rfl ?_
 refine aC rfl (fun h13 => ?_) (fun h13 => ?_)
 ·refine (kC) ?_
  refine aj (o6 p n cap cf fs cs S key Pd hb hf l1 _ _ A (20 + A) rfl rfl (by omega) (by omega) hn2 (hR1.pd (Nat.le_refl _) hpd)) V.M3  rfl (aO .nil) rfl ?_
  rintro _ _ ⟨rfl, l3, hr3, mC, rfl⟩
  refine gV TT 15 rfl (by omega) ?_
  rw [show ((20 + A : Nat) : Int) + 20 = ((20 + (20 + A) : Nat) : Int) by omega]
  exact j2 (20 + A) _ ⟨⟨by omega, by omega, hR1.trans (hr3.wide (Nat.zero_le _) (by omega)), hBd.step hA hr3 mC⟩, by omega⟩ (jt (bB ln)) (sub (aO .nil) ak)
 ·refine (o5) ?_
  refine aj (o6 p n cap cf fs cs S key Pd hb hf l1 _ _ A n rfl rfl (by omega) (by omega) hn2 (hR1.pd (Nat.le_refl _) hpd)) V.M3  rfl (aO .nil) rfl ?_
  rintro _ _ ⟨rfl, l3, hr3, mC, rfl⟩
  refine (Qi) ?_
  refine gp (fun (bs : Nat) (l1 : List Int) => [(0, .slice p n cap), (1, .int .i64 (n : Int)), (2, .func (.func cf) fs.toArray cs.toArray), (6, .int .i64 (bs : Int))]) (fun (bs : Nat) (l1 : List Int) => Row I3 p n cap (l1) :: S :: F) (fun (bs : Nat) (l1 : List Int) => 0 < bs ∧ cm.Rl key I3.d l l1 0 n ∧ cm.Bk key I3.d l1 bs n) (fun (bs : Nat) (l1 : List Int) => n - bs) (i2 (20) (_) ?_ (eG ln) (sub (aO .nil) ak)) ?_
  ·exact ⟨by decide, hR1.trans (hr3.wide (Nat.zero_le _) (Nat.le_refl _)), hBd.fin hA hAn (by omega) hr3 mC⟩
  intro bs l1
  rintro ⟨hbs, hR1, hBk⟩
  refine rL TT 8 rfl ?_
  refine aC rfl (fun h30 => ?_) (fun h30 => ?_)
  ·refine jW TT 13 rfl (by omega) ?_
   refine gp (fun (A : Nat) (l2 : List Int) => [(0, .slice p n cap), (1, .int .i64 (n : Int)), (2, .func (.func cf) fs.toArray cs.toArray), (6, .int .i64 (bs : Int)), (7, .int .i64 (A : Int)), (8, .int .i64 ((2 * bs + A : Nat) : Int))]) (fun (A : Nat) (l2 : List Int) => Row I3 p n cap (l2) :: S :: F) (fun (A : Nat) (l2 : List Int) => 2 * bs ∣ A ∧ A ≤ n ∧ cm.Rl key I3.d l l2 0 n ∧ cm.Bd key I3.d l2 (2 * bs) A ∧ cm.Br key I3.d l2 bs n A) (fun (A : Nat) (l2 : List Int) => n - A) (i2 (0) (_) ?_ (jt (bB ln)) (sub (aO .nil) ak)) ?_
   ·exact ⟨Nat.dvd_zero _, Nat.zero_le _, hR1, cm.Bd.zero _ _ (by omega), hBk.br⟩
   intro A l2
   rintro ⟨hA, hAn, hR2, hBd, hBr⟩
   refine rL TT 8 rfl ?_
   refine aC rfl (fun h35 => ?_) (fun h35 => ?_)
   ·refine (Dd) ?_
    refine aj (sD p n cap cf fs cs S key Pd hb hf hn2 _ l2 A (A + bs) (2 * bs + A) (Nat.le_refl _) (by omega) (by omega) (by omega) (hR2.pd (Nat.le_refl _) hpd) (hBr.two hA (by omega)).1 (hBr.two hA (by omega)).2) V.Bw  rfl (aO .nil) rfl ?_
    rintro _ _ ⟨rfl, l3, hr3, mC, rfl⟩
    refine gV TT 16 rfl (by omega) ?_
    rw [show ((2 * bs + A : Nat) : Int) + 2 * (bs : Int) = ((2 * bs + (2 * bs + A) : Nat) : Int) by omega]
    exact j2 (2 * bs + A) _ ⟨⟨Nat.dvd_add (Nat.dvd_refl _) hA, by omega, hR2.trans (hr3.wide (Nat.zero_le _) (by omega)), hBd.step hA hr3 mC, hBr.step (by omega) hr3⟩, by omega⟩ (jt (bB ln)) (sub (aO .nil) ak)
   ·refine jW TT 21 rfl (by omega) ?_
    refine aC rfl (fun h54 => ?_) (fun h54 => ?_)
    ·refine (Qc) ?_
     refine aj (sD p n cap cf fs cs S key Pd hb hf hn2 _ l2 A (A + bs) n (Nat.le_refl _) (by omega) (by omega) (by omega) (hR2.pd (Nat.le_refl _) hpd) (hBr.last hA (by omega) (by omega)).1 (hBr.last hA (by omega) (by omega)).2) V.Bw  rfl (aO .nil) rfl ?_
     rintro _ _ ⟨rfl, l3, hr3, mC, rfl⟩
     refine (QQ) ?_
     rw [show (bs : Int) * 2 = ((2 * bs : Nat) : Int) by omega]
     exact j2 (2 * bs) _ ⟨⟨by omega, hR2.trans (hr3.wide (Nat.zero_le _) (Nat.le_refl _)), hBd.fin hA (by omega) (by omega) hr3 mC⟩, by omega⟩ (eG ln) (sub (aO .nil) ak)
    ·refine (vz) ?_
     rw [show (bs : Int) * 2 = ((2 * bs : Nat) : Int) by omega]
     exact j2 (2 * bs) _ ⟨⟨by omega, hR2, hBd.fin hA (by omega) (by omega) (cm.Rl.refl _ _ _) (hBr.one hA (by omega))⟩, by omega⟩ (eG ln) (sub (aO .nil) ak)
  ·refine (Q4) ?_
   exact gY eK ⟨rfl, l1, hR1, hBk.all (by omega), rfl⟩ (sub (aO .nil) ak)
theorem K5 (p : Option Addr) (n cap : Nat) (cf : Nat) (fs cs : List Value) (S : ad) (key : Int → Int) (Pd : Int → Prop) (hb : ay Tryz.prog cf = true) (hf : ∀ x y, Pd x → Pd y → az Tryz.prog cf (fs ++ [.int .i64 x, .int .i64 y] ++ cs) [S] (aG fun v G => v = .int .i64 (lr (key x) (key y)) ∧ G = [S])) (l : List Int) (hn2 : n ≤ 1000000) (hpd : ∀ i, i < n → Pd (l.getD i I3.d)) : az Tryz.prog 216 [.slice p n cap, .func (.func cf) fs.toArray cs.toArray] [Row I3 p n cap (l), S] (aG fun v G => v = .tuple #[] ∧ ∃ l2, cm.Rl key I3.d l l2 0 n ∧ cm.Sd key I3.d l2 0 n ∧ G = [Row I3 p n cap (l2), S]) := by
 refine au [(0, _), (1, _)] Tryz.func216 rfl Tryz.ntmps216 rfl rfl ?_
 intro w0 F
 refine (QO) ?_
 refine aj (Dl p n cap cf fs cs S key Pd hb hf l hn2 hpd) V.XK  rfl (aO .nil) rfl ?_
 rintro _ _ ⟨rfl, l3, hr3, mC, rfl⟩
 exact dh<|gY eK ⟨rfl, l3, hr3, mC, rfl⟩ (sub (aO .nil) ak)
end Go.Proofs.YtmaiakpjgomnpaaGreat
namespace Go.Proofs.YtmaiakpjgomnpaaGreat
open Go.Sl 
theorem AG (x : Int) : az Tryz.prog 230 [.int .i64 x] [] (aG fun v G => v = .bool false ∧ G = []) := by
 refine au [(0, _)] Tryz.func230 rfl Tryz.ntmps230 rfl rfl ?_
 intro w0 F
 exact rT TT 14 rfl<|af (av rfl) ⟨by simp, rfl⟩ (sub .nil ak)
theorem C7 (x y : Int) : az Tryz.prog 218 [.int .i64 x, .int .i64 y] [] (aG fun v G => v = .int .i64 (lr x y) ∧ G = []) := by
 refine au [(0, _), (1, _)] Tryz.func218 rfl Tryz.ntmps218 rfl rfl ?_
 intro w0 F
 refine (QH) ?_
 refine aj (AG x) V.R6  rfl .nil rfl ?_
 rintro _ _ ⟨rfl, rfl⟩
 refine (Q1) ?_
 refine aj (AG y) V.R6  rfl .nil rfl ?_
 rintro _ _ ⟨rfl, rfl⟩
 refine rO TT 29 rfl ?_
 refine aC rfl (fun h16 => ?_) (fun h16 => ?_)
 ·refine (Qs) ?_
  exact af (av rfl) ⟨by rw [lr, if_pos (by assumption)], rfl⟩ (sub .nil ak)
 ·refine (QA) ?_
  refine aC rfl (fun h19 => ?_) (fun h19 => ?_)
  ·refine (Qs) ?_
   exact af (av rfl) ⟨by rw [lr, if_neg (by assumption), if_pos (by omega)], rfl⟩ (sub .nil ak)
  ·refine rC TT 8 rfl ?_
   exact af (av rfl) ⟨by rw [lr, if_neg (by assumption), if_neg (by omega)], rfl⟩ (sub .nil ak)
theorem Oz (p : Option Addr) (n cap : Nat) (ls : List Int) (R : ad) (hR : ∀ w0 h, R w0 h → aF I3 p n ls w0 h) (bL : Nat) (x y : Int) (hx : 0 ≤ x ∧ x < n) (hy : 0 ≤ y ∧ y < n) : az Tryz.prog 217 [.int .i64 x, .int .i64 y, .pointer (some ⟨bL, 0, none⟩)] [ai bL 47 [.slice p n cap], R] (aG fun v G => v = .int .i64 (lr (ls.getD x.toNat 0) (ls.getD y.toNat 0)) ∧ G = [ai bL 47 [.slice p n cap], R]) := by
 refine au [(0, _), (1, _), (2, _)] Tryz.func217 rfl Tryz.ntmps217 rfl rfl ?_
 intro w0 F
 refine (me) ?_
 refine wN [pz 0 [] [2], pz 0 [] [0], pz 3 [0, 1] [], pz 7 [2] [], pz 0 [] [2], pz 0 [] [1], pz 48 [4, 5] [], pz 112 [6] [], pz 255 [3, 7] [], pz 511 [8] []] [⟨fun y => ai bL 47 [.slice p n cap], none, none, [0, 4]⟩, ⟨fun y => R, none, none, [2, 3, 6, 7]⟩] F V.mixed ?_
 refine (Oa) ?_
 refine nM ?_
 refine nR (fun y FF hA => xI V.cV (by exact bM hR aB)) ?_
 refine nR (fun y FF hA => xL V.s3 (by exact bM hR aB)) ?_
 refine (Oa) ?_
 refine nM ?_
 refine nR (fun y FF hA => xI V.cV (by exact bM hR aB)) ?_
 refine nR (fun y FF hA => xL V.s3 (by exact bM hR aB)) ?_
 refine nE (fun y FF hA => aV (Post := []) (C7 _ _) V.XQ rfl .nil (fun v G h => by rcases h with ⟨rfl, rfl⟩; exact ⟨rfl, .refl _⟩)) ?_
 refine nA ?_
 refine (Qb) ?_
 intro y hA
 clear hA
 refine bj<|bE _ (.cons (d := 5) rfl (.nil _))<|bo (M := ai bL 47 [.slice p n cap] :: R :: F) (fun _ _ h => h)<|(Qa) ?_
 exact af (av rfl) ⟨rfl, rfl⟩ (sub (aO .nil) ak)
theorem KH (C : List Int) (all : Int) (hl : C.length = 16) (hC : ∀ i, 0 ≤ C.getD i 0 ∧ C.getD i 0 ≤ 320) : az Tryz.prog 215 [.agg (ints .i64 C).toArray, .int .i64 all] [] (aG fun v G => v = .bool (ae.fL C all) ∧ G = []) := by
 refine au [(0, _), (1, _)] Tryz.func215 rfl Tryz.ntmps215 rfl rfl ?_
 intro w0 F
 refine (QD) ?_
 refine jE rfl (wU _ _) rfl ?_
 intro b2
 refine (QI) ?_
 refine cB (fun (k : Nat) => [(1, .int .i64 all), (2, .pointer (some ⟨b2, 0, none⟩)), (5, .int .i64 (ae.left C k)), (6, .int .i64 ((k : Int) + 1))]) (fun (k : Nat) => ai b2 229 (CA [] .i64 C []) :: F) (fun (k : Nat) => k ≤ 15 ∧ ∀ m, 1 ≤ m → m ≤ k → 0 ≤ ae.left C m) (fun (k : Nat) => 15 - k) (i1 (0) ?_ (eG ln) (sub (aq .nil) ak)) ?_
 ·exact ⟨by omega, fun m h1 h2 => by omega⟩
 intro k
 rintro ⟨hk, hno⟩
 have hcc := hC ((k : Int) + 1).toNat
 have hlb := ae.Cw (fun i => (hC i).1) hk
 have hl0 := ae.KE hno
 have hlen : C.length = 16 := hl
 refine rL TT 7 rfl ?_
 refine aC rfl (fun h8 => ?_) (fun h8 => ?_)
 ·refine jW TT 9 rfl (by omega)<|oV (fQ (k + 1) rfl V.qZ rfl rfl (by omega))<|oV (nT ((k : Int) + 1) V.s3 rfl aB (by (simp only [List.length_cons, List.length_nil]; omega)) (by omega) (by omega))<|(AM) ?_
  refine aC rfl (fun h18 => ?_) (fun h18 => ?_)
  ·refine (o5) ?_
   exact af (av rfl) ⟨by rw [ae.xZ (n := k + 1) (by omega) (by omega) (by rw [← ae.qh]; exact h18)], rfl⟩ (sub .nil bp)
  ·refine (vz) ?_
   have hno2 := ae.ET hno h18
   rw [ae.qh]
   exact j1 (k + 1) ⟨⟨by omega, hno2⟩, by omega⟩ (eG ln) (sub (aq .nil) ak)
 ·refine (QA) ?_
  refine kh 21 rfl (fun h21 => ?_) (fun h21 => ?_)
  ·exact rO TT 16 rfl<|af (av rfl) ⟨by rw [ae.mz hk h8 hno]; (simp [h21]; done), rfl⟩ (sub .nil bp)
  ·refine (Q8) ?_
   refine kh 25 rfl (fun h25 => ?_) (fun h25 => ?_)
   ·refine (QG) ?_
    exact af (av rfl) ⟨by rw [ae.mz hk h8 hno]; (simp [h21, h25]; done), rfl⟩ (sub .nil bp)
   ·refine (Qi) ?_
    refine kh 28 rfl (fun h28 => ?_) (fun h28 => ?_)
    ·refine (Q0) ?_
     refine oV (fQ 1 rfl V.qZ rfl rfl (by omega))<|(Q0) ?_
     refine oV (nT (1 : Int) V.s3 rfl aB (by (simp only [List.length_cons, List.length_nil]; omega)) (by omega) (by omega))<|(Qd) ?_
     exact af (av rfl) ⟨by rw [ae.mz hk h8 hno]; (simp [h21, h25, h28]; done), rfl⟩ (sub .nil bp)
    ·refine (Qn) ?_
     exact af (av rfl) ⟨by rw [ae.mz hk h8 hno]; (simp [h21, h25, h28]; done), rfl⟩ (sub .nil bp)
end Go.Proofs.YtmaiakpjgomnpaaGreat
namespace Go.Proofs.YtmaiakpjgomnpaaGreat
open Go.Sl 
attribute [local irreducible] ae.ord ae.gU ae.cC ae.bJ ae.bY ae.words ae.eX ae.lenOf ae.a7 ae.left ae.fL
set_option maxHeartbeats 1000000 in
theorem Jy (p : Option Addr) (cap : Nat) (ls : List Int) (R : ad) (hR : ∀ w0 h, R w0 h → aF I3 p ls.length ls w0 h) : az Tryz.prog 195 [.slice p ls.length cap] [R] (aG fun v G => (ae.a7 ls = 0 ∧ ∃ b, v = .tuple #[.pointer (some ⟨b, 0, none⟩), .int .i64 0] ∧ G = [HC b ls, R]) ∨ (ae.a7 ls ≠ 0 ∧ v = .tuple #[.pointer none, .int .i64 (ae.a7 ls)] ∧ G = [R])) := by
 refine au [(0, _)] Tryz.func195 rfl Tryz.ntmps195 rfl rfl ?_
 intro w0 F
 refine (QD)<|(tg) ?_
 intro b1
 refine (Qd) ?_
 refine oV (aA V.nz rfl aB rfl)<|(Q8) ?_
 refine aC rfl (fun h13 => ?_) (fun h13 => ?_)
 ·exact rC TT 8 rfl<|af (ez rfl rfl) (.inr ⟨by rw [ae.vI (by omega)]; decide, by rw [ae.vI (by omega)], rfl⟩) (sub (.cons aw .nil) bp)
 ·refine (Q4) ?_
  refine oV (aA V.nz rfl aB rfl)<|(Iw) ?_
  refine lR ls.length ls.length (pX) rfl rfl V.IY V.RS rfl rfl rfl rfl (by omega) (by omega) rfl rfl ?_
  intro b16
  refine oV (cn V.Ud V.W5 rfl (cs := [_, _, _, _, _, _, _, _, _, _, _, _, _, _, _, _, _, _, _]) rfl)<|jE rfl (show _ = CA [.slice (some ⟨b16, 0, none⟩) ls.length ls.length] .i64 (ae.bJ (ls.take 0)) [.slice none (ae.cC (ls.take 0)).length 0, .int .i64 (ae.bY (ls.take 0))] from by rw [List.take_zero, ae.Gk, ae.yt, ae.Hg]; rfl) rfl ?_
  intro b18
  refine (Q1)<|(Bc)<|(Q3) ?_
  refine iT (Row I3 none (ae.cC (ls.take 0)).length 0 (ae.cC (ls.take 0))) (by rw [List.take_zero, ae.yt]; exact Row.nil _ _ _) ?_
  refine fN (fun (k : Nat) (po : Option Addr) (co : Nat) => [(1, .pointer (some ⟨b1, 0, none⟩)), (4, .pointer (some ⟨b18, 0, none⟩)), (19, .slice p ls.length cap), (20, .int .i64 (ls.length : Int)), (21, .int .i64 (k : Int))]) (fun (k : Nat) (po : Option Addr) (co : Nat) => ai b18 275 (CA [.slice (some ⟨b16, 0, none⟩) ls.length ls.length] .i64 (ae.bJ (ls.take k)) [.slice po (ae.cC (ls.take k)).length co, .int .i64 (ae.bY (ls.take k))]) :: Row I3 po (ae.cC (ls.take k)).length co (ae.cC (ls.take k)) :: Row pX (some ⟨b16, 0, none⟩) ls.length ls.length (List.replicate ls.length (0, 0)) :: ai b1 47 [.slice p ls.length cap] :: R :: F) (fun (k : Nat) (po : Option Addr) (co : Nat) => k ≤ ls.length ∧ ∀ i, i < k → 0 ≤ ls.getD i 0 ∧ ls.getD i 0 ≤ 15) (fun (k : Nat) (po : Option Addr) (co : Nat) => ls.length - k) (i3 (0) (none) (0) ?_ (bB ln) (sub (.cons aw (lZ .nil)) ak)) ?_
  ·exact ⟨by omega, fun i hi => by omega⟩
  intro k po co
  rintro ⟨hk, hok⟩
  refine (Qm) ?_
  refine aC rfl (fun h22 => ?_) (fun h22 => ?_)
  ·refine (Qs)<|(Oe)<|(Q1) ?_
   have hk2 : k < ls.length := by omega
   have hg : I3.g ls (k : Int) = ls.getD k 0 := by simp [Ec.g]
   have hg2 : ls.getD k 0 = ls[k] := by simp [hk2]
   have htk : (ls.take k).length = k := by rw [List.length_take]; omega
   have hcl := ae.ju (ls.take k)
   have hcb := ae.nX (ls := ls.take k) (by omega) (I3.g ls (k : Int)).toNat
   have hpl2 := ae.uQ (ls.take k)
   refine (Q4) ?_
   refine kh 28 rfl (fun h28 => ?_) (fun h28 => ?_)
   ·exact rO TT 19 rfl<|af (ez rfl rfl) (.inr ⟨by rw [ae.oq (by omega) hk2 (by omega)]; decide, by rw [ae.oq (by omega) hk2 (by omega)], rfl⟩) (sub (.cons ig .nil) lA)
   ·refine (Q3) ?_
    refine aC rfl (fun h31 => ?_) (fun h31 => ?_)
    ·exact rC TT 13 rfl<|af (ez rfl rfl) (.inr ⟨by rw [ae.oq (by omega) hk2 (by omega)]; decide, by rw [ae.oq (by omega) hk2 (by omega)], rfl⟩) (sub (.cons ig .nil) lA)
    ·refine rC TT 8 rfl ?_
     refine aC rfl (fun h33 => ?_) (fun h33 => ?_)
     ·refine (Qa) ?_
      refine wN [pz 0 [] [4], pz 0 [] [6], pz 1 [0] [], pz 5 [2] [], pz 15 [3, 1] [], pz 31 [4] [], pz 63 [5] [], pz 1 [0] [], pz 129 [7] [], pz 511 [8, 1] [], pz 1023 [9, 6] []] [⟨fun y => ai b18 275 (CA [.slice (some ⟨b16, 0, none⟩) ls.length ls.length] .i64 (ae.bJ (ls.take k)) [.slice po (ae.cC (ls.take k)).length co, .int .i64 (ae.bY (ls.take k))]), none, some 10, [5]⟩, ⟨fun y => Row I3 po (ae.cC (ls.take k)).length co (ae.cC (ls.take k)), none, none, []⟩, ⟨fun y => Row pX (some ⟨b16, 0, none⟩) ls.length ls.length (List.replicate ls.length (0, 0)), none, none, []⟩, ⟨fun y => ai b1 47 [.slice p ls.length cap], none, none, []⟩, ⟨fun y => R, none, none, []⟩, ⟨fun y => ai b18 275 (CA [.slice (some ⟨b16, 0, none⟩) ls.length ls.length] .i64 ((ae.bJ (ls.take k)).set (((I3.g ls (k : Int))).toNat) (((ae.bJ (ls.take k)).getD (((I3.g ls (k : Int))).toNat) 0) + 1)) [.slice po (ae.cC (ls.take k)).length co, .int .i64 (ae.bY (ls.take k))]), some 10, none, []⟩] F V.mixed ?_
      iterate 2 refine nM ?_
      refine nN ?_
      refine nG V.yH ?_
      refine nV (fun y hA L => fQ (((I3.g ls (k : Int))).toNat) (by omega) V.qZ rfl rfl (by omega)) ?_
      refine nR (fun y FF hA => nT (I3.g ls (k : Int)) V.s3 rfl aB (by (simp only [List.length_cons, List.length_nil]; omega)) (by omega) (by omega)) ?_
      refine nV (fun y hA L => eA rfl rfl wI) ?_
      refine nN ?_
      refine nG V.yH ?_
      refine nV (fun y hA L => fQ (((I3.g ls (k : Int))).toNat) (by omega) V.qZ rfl rfl (by omega)) ?_
      refine nE (fun y FF hA => dD (zO (I3.g ls (k : Int)) V.s3 rfl rfl (by exact fI) (by (simp only [List.length_cons, List.length_nil]; omega)) (by omega) (by omega)) ⟨rfl, .refl _⟩) ?_
      refine cG ?_
      intro y hA
      clear hA
      refine bj<|bE _ (.cons (d := 1) rfl (.cons (d := 4) rfl (.cons (d := 5) rfl (.cons (d := 6) rfl (.cons (d := 19) rfl (.cons (d := 20) rfl (.cons (d := 21) rfl (.nil _))))))))<|bo (M := Row I3 po (ae.cC (ls.take k)).length co (ae.cC (ls.take k)) :: Row pX (some ⟨b16, 0, none⟩) ls.length ls.length (List.replicate ls.length (0, 0)) :: ai b1 47 [.slice p ls.length cap] :: R :: ai b18 275 (CA [.slice (some ⟨b16, 0, none⟩) ls.length ls.length] .i64 ((ae.bJ (ls.take k)).set (((I3.g ls (k : Int))).toNat) (((ae.bJ (ls.take k)).getD (((I3.g ls (k : Int))).toNat) 0) + 1)) [.slice po (ae.cC (ls.take k)).length co, .int .i64 (ae.bY (ls.take k))]) :: F) (fun _ _ h => h)<|(Qc) ?_
      refine oV (kS (n := 16) 0 V.nz rfl jR (by (simp only [List.length_set]; omega)) rfl rfl)<|(Q7) ?_
      refine cH (I3) [(k : Int)] V.cV V.z3 rfl rfl rfl rfl rfl rfl ?_
      intro b50
      refine (Ww) ?_
      intro p51 c51
      refine (Q6) ?_
      refine cy (xQ (n := 16) 0 V.nz rfl rfl rfl (by exact HZ) (by (simp only [List.length_set]; omega)) rfl (by exact Nat.le_of_ble_eq_true rfl) rfl)<|(Qd) ?_
      refine oV (kS (n := 16) 1 V.s3 rfl Om (by (simp only [List.length_set]; omega)) rfl rfl)<|(Q7) ?_
      refine oV (BA rfl rfl)<|(Q6) ?_
      refine cy (xQ (n := 16) 1 V.s3 rfl rfl rfl (by exact HZ) (by (simp only [List.length_set]; omega)) rfl (by exact Nat.le_of_ble_eq_true rfl) rfl)<|(zF) ?_
      have hok2 := ae.zD hok (by omega)
      (obtain ⟨e1, e2, e3, e4⟩ := ae.step_pos hk2 (hg.trans hg2) (by omega) (by omega); rw [e1, e2, e3, e4]; exact j3 (k + 1) _ _ ⟨⟨by omega, hok2⟩, by omega⟩ (bB ln) (sub (.cons jM (aq (.cons aw (.cons aw (.cons aw .nil))))) bp))
     ·refine jW TT 7 rfl (by omega) ?_
      have hok2 := ae.zD hok (by omega)
      (obtain ⟨e1, e2, e3⟩ := ae.EJ hk2 (hg.trans hg2) (by omega); rw [← e1, ← e2, ← e3]; exact j3 (k + 1) _ _ ⟨⟨by omega, hok2⟩, by omega⟩ (bB ln) (sub (mj .nil) ak))
  ·refine (Qs) ?_
   have hkn : k = ls.length := by omega
   subst hkn
   rw [List.take_length] at *
   have hvv := ae.Lg hok (Nat.le_refl _)
   have hcl := ae.ju ls
   have hE0 := ae.L8 (by omega) hvv
   refine wN [pz 0 [] [4], pz 1 [0] [], pz 3 [1] [], pz 7 [2] [], pz 0 [] [4], pz 16 [4] [], pz 48 [5] [], pz 112 [6] [], pz 240 [7] [], pz 511 [3, 8] [], pz 1023 [9] []] [⟨fun y => ai b18 275 (CA [.slice (some ⟨b16, 0, none⟩) ls.length ls.length] .i64 (ae.bJ ls) [.slice po (ae.cC ls).length co, .int .i64 (ae.bY ls)]), none, none, [3, 7]⟩, ⟨fun y => Row I3 po (ae.cC ls).length co (ae.cC ls), none, none, []⟩, ⟨fun y => Row pX (some ⟨b16, 0, none⟩) ls.length ls.length (List.replicate ls.length (0, 0)), none, none, []⟩, ⟨fun y => ai b1 47 [.slice p ls.length cap], none, none, []⟩, ⟨fun y => R, none, none, []⟩] F V.mixed<|nM<|nN<|nG V.yH<|nR (fun y FF hA => vP V.a229 rfl aB (by omega) rfl)<|nM<|nN<|nG V.Ry<|nR (fun y FF hA => kS (n := 16) 0 V.nz rfl aB (by omega) rfl rfl)<|nV (fun y hA L => jZ (ty' := 0) Tryz.underlying47 rfl)<|nE (fun y FF hA => aV (Post := []) (KH (ae.bJ ls) _ (ae.ju _) (ae.nX (by omega))) V.W2 rfl .nil (fun v G h => by rcases h with ⟨rfl, rfl⟩; exact ⟨rfl, .refl _⟩))<|nV (fun y hA L => lH rfl)<|(Qb) ?_
   intro y hA
   clear hA
   refine bj<|bE _ (.cons (d := 1) rfl (.cons (d := 4) rfl (.cons (d := 74) rfl (.nil _))))<|bo (M := ai b18 275 (CA [.slice (some ⟨b16, 0, none⟩) ls.length ls.length] .i64 (ae.bJ ls) [.slice po (ae.cC ls).length co, .int .i64 (ae.bY ls)]) :: Row I3 po (ae.cC ls).length co (ae.cC ls) :: Row pX (some ⟨b16, 0, none⟩) ls.length ls.length (List.replicate ls.length (0, 0)) :: ai b1 47 [.slice p ls.length cap] :: R :: F) (fun _ _ h => h) ?_
   refine sS rfl (fun h74 => ?_) (fun h74 => ?_)
   ·refine (Qa) ?_
    have hE : ae.a7 ls = 4 := by rw [hE0, if_neg (by simpa using h74)]
    refine (Qs) ?_
    exact af (ez rfl rfl) (.inr ⟨by rw [hE]; decide, by rw [hE], rfl⟩) (sub (.cons ig .nil) lA)
   ·refine (Q5) ?_
    have hE : ae.a7 ls = 0 := by rw [hE0, if_pos (by simpa using h74)]
    have hV := (ae.kU hE).1
    have hW := (ae.kU hE).2
    have hpl := ae.xF hV
    have hpn := ae.uQ ls
    refine OG (A := [ai b1 47 [.slice p ls.length cap], R]) (.cons c9 (.cons c9 .nil))<|(Q4) ?_
    refine oV (kS (n := 16) 0 V.nz rfl dm (by omega) rfl rfl)<|oV (Cf (fs := []) (cs := [_]) rfl rfl)<|aj (K5 po (ae.cC ls).length co 217 [] [.pointer (some ⟨b1, 0, none⟩)] (qa [ai b1 47 [.slice p ls.length cap], R]) (ae.key ls) (fun x => 0 ≤ x ∧ x < ls.length) V.Xf (fun x y hx hy => (Oz p ls.length cap ls R hR b1 x y hx hy).star) (ae.cC ls) (by omega) (ae.KI ls)) V.WN  rfl (.cons bg (aq .nil)) rfl ?_
    rintro _ _ ⟨rfl, l2, hR2, hS2, rfl⟩
    obtain rfl := ae.FU hvv hR2 hS2
    refine (Qi) ?_
    refine HA aw ?_
    rw [hpl]
    refine (o5) ?_
    refine oV (kS (n := 16) 0 V.nz rfl iH (by omega) rfl rfl)<|(Q3) ?_
    rw [← ae.zr]
    refine cB (fun (k : Nat) => [(1, .pointer (some ⟨b1, 0, none⟩)), (4, .pointer (some ⟨b18, 0, none⟩)), (7, .int .i64 (ae.yE ls k)), (8, .int .i64 (ae.mO ls k)), (84, .slice po (ae.ord ls).length co), (85, .int .i64 ((ae.ord ls).length : Int)), (86, .int .i64 (k : Int))]) (fun (k : Nat) => ai b18 275 (CA [.slice (some ⟨b16, 0, none⟩) ls.length ls.length] .i64 (ae.bJ ls) [.slice po (ae.ord ls).length co, .int .i64 (ae.bY ls)]) :: Row I3 po (ae.ord ls).length co (ae.ord ls) :: Row pX (some ⟨b16, 0, none⟩) ls.length ls.length (ae.gU ls k) :: ai b1 47 [.slice p ls.length cap] :: R :: F) (fun (k : Nat) => k ≤ (ae.ord ls).length) (fun (k : Nat) => (ae.ord ls).length - k) (i1 (0) ?_ (gI (bB ln)) (sub (.cons c9 (.cons bg (.cons bg (aO .nil)))) ak)) ?_
    ·exact Nat.zero_le _
    intro k
    rintro hk
    refine (Qm) ?_
    refine aC rfl (fun h87 => ?_) (fun h87 => ?_)
    ·refine (Qe) ?_
     have hk2 : k < (ae.ord ls).length := by omega
     obtain ⟨s, hs⟩ := ae.W3 hW hk2
     have hgs : I3.g (ae.ord ls) (k : Int) = (s : Int) := by rw [← hs.sym]; simp [Ec.g]
     have hsl := hs.lt
     refine (Qo) ?_
     refine oV (xI V.cV (own dm))<|oV (xL V.s3 (own dm))<|(Q8) ?_
     rw [hgs]
     have hls : I3.g ls (s : Int) = (ae.lenOf ls s : Int) := by rw [← hs.len]; simp [Ec.g]
     have hs1 := hs.top
     have hs2 := hs.nn
     have mC := hs.ge
     have hs4 := hs.w0
     have hs5 : ae.eX ls s < 32768 := by have := ae.qp hs.top; have := hs.w1; omega
     refine (Q9) ?_
     refine oV (aA V.nz rfl iH rfl)<|(Q7)<|(Oe)<|(ny) ?_
     refine oV (iQ (r := ae.eX ls s) rfl rfl (by omega) (G3 hs hls))<|(Q3) ?_
     refine oV (aA V.nz rfl iH rfl)<|(Q7)<|(Oe)<|(Q8) ?_
     rw [hls]
     refine (Q4) ?_
     refine oV (aA V.WV rfl aB rfl)<|(Qi) ?_
     refine oV (cn V.Tu V.RS rfl (cs := [_, _]) rfl)<|oV (xI V.IY (own dW))<|cy (G6 (c := (pX)) ((ae.eX ls s, (ae.lenOf ls s : Int))) V.W1 rfl rfl (by exact zM) (by omega) (by omega) rfl)<|gV TT 13 rfl (by omega) ?_
     have en : ae.eX ls s + 1 = ae.yE ls (k + 1) := by simp only [ae.yE]; rw [hs.sym]; simp
     have el : (ae.lenOf ls s : Int) = ae.mO ls (k + 1) := by simp only [ae.mO]; rw [hs.sym]; simp
     rw [Int.toNat_natCast, ← ae.zu hk2 hs, en, el]
     refine j1 (k + 1) ?_ (gI (bB ln)) (sub (mj .nil) ak)
     exact ⟨by omega, by omega⟩
    ·exact rC TT 13 rfl<|af (ez rfl rfl) (.inl ⟨hE, b18, rfl, rfl⟩) ((aM (aq (.cons aw (.cons cW .nil))) ak (fun w0 h hh => oI (ae.Cx hV (by omega)) hh)).trans (sub (aq (.cons aw .nil)) bp))
end Go.Proofs.YtmaiakpjgomnpaaGreat
namespace Go.Proofs.YtmaiakpjgomnpaaGreat
open Go.Sl 
theorem nq (p : Option Addr) (cap : Nat) (B : List Int) (R : ad) (hR : ∀ w0 h, R w0 h → aF U5 p B.length B w0 h) (hl : B.length < 500000000) : az Tryz.prog 91 [.slice p B.length cap] [R] (aG fun v G => ∃ q c, v = .slice q B.length c ∧ G = [Row U5 q B.length c B, R]) := by
 refine au [(0, _)] Tryz.func91 rfl Tryz.ntmps91 rfl rfl ?_
 intro w0 F
 refine gr (fun w hi => Pb (List.mem_cons_self ..) hR hi) (fun hp => ?_)
 refine (QV) ?_
 refine oV (Gw Tryz.underlying22 rfl rfl)<|(Q6) ?_
 refine sS rfl (fun h4 => ?_) (fun h4 => ?_)
 ·refine (Qs) ?_
  obtain rfl : p = none := by cases p with | none => rfl | some _ => simp at h4
  obtain rfl : B = [] := hp rfl
  exact af (av rfl) ⟨none, 0, rfl, rfl⟩ ((cX (fun w0 => Row.nil _ _ _)).trans (sub (aO .nil) ak))
 ·refine (Q4) ?_
  refine cH (U5) [] V.bN V.z5 rfl rfl rfl rfl rfl rfl ?_
  intro b5
  refine (Q7) ?_
  refine eh (c := (U5)) V.bN V.z5 rfl rfl rfl rfl cW (by exact bM hR dm) (by omega) rfl ?_
  intro p7 c7
  refine (Q8) ?_
  exact af (av rfl) ⟨p7, c7, by rw [Nat.zero_add], by rw [Nat.zero_add, List.nil_append]⟩ (sub (aO .nil) ak)
theorem ML (b : Nat) (B : List Int) (at_ : Nat) (out : List Int) (free : Int) (hl : B.length < 500000000) (ha : at_ ≤ 8 * B.length) : az Tryz.prog 128 [.pointer (some ⟨b, 0, none⟩)] [LW b B at_ out free] (aG fun v G => v = .int .i64 (8 * (B.length : Int) - (at_ : Int)) ∧ G = [LW b B at_ out free]) := by
 refine au [(0, _)] Tryz.func128 rfl Tryz.ntmps128 rfl rfl ?_
 intro w0 F
 refine (ql) ?_
 rintro ⟨p1, c1, p2, c2⟩ _
 dsimp only
 refine (me) ?_
 refine wN [pz 0 [] [0], pz 1 [0] [], pz 3 [1] [], pz 7 [2] [], pz 15 [3] [], pz 31 [4] [], pz 0 [] [0], pz 64 [6] [], pz 192 [7] [], pz 448 [8] [], pz 1023 [5, 9] [], pz 2047 [10] []] [⟨fun y => ai b 236 [.slice p1 B.length c1, .slice p2 out.length c2, .int .i64 (at_ : Int), .int .i64 free], none, none, [3, 9]⟩, ⟨fun y => Row U5 p1 B.length c1 B, none, none, []⟩, ⟨fun y => Row U5 p2 out.length c2 out, none, none, []⟩] F V.mixed ?_
 refine nM ?_
 refine nN ?_
 refine nG V.Dc ?_
 refine (pY) ?_
 refine (wH) ?_
 refine (SG) ?_
 refine nM ?_
 refine nN ?_
 refine nG V.w7 ?_
 refine (Qv) ?_
 refine (ve) ?_
 refine nA ?_
 refine (Qb) ?_
 intro y hA
 clear hA
 refine bj ?_
 refine (JM) ?_
 refine (UL) ?_
 refine (Qa) ?_
 exact af (av rfl) ⟨rfl, rfl⟩ (aM (fp .nil) ak (fun w0 h hh => oJ hh))
theorem Uf (b : Nat) (B : List Int) (at_ : Nat) (out : List Int) (free : Int) (n : Int) (hl : B.length < 500000000) (ha : at_ ≤ 8 * B.length) (hn : 0 ≤ n ∧ n ≤ 24 ∧ n ≤ 8 * (B.length : Int) - at_) : az Tryz.prog 92 [.pointer (some ⟨b, 0, none⟩), .int .i64 n] [LW b B at_ out free] (aG fun v G => v = .tuple #[] ∧ G = [LW b B at_ out free]) := by
 refine (Nf) ?_
 intro w0 F
 refine rT TT 3 rfl ?_
 refine (QE) ?_
 refine (Q6) ?_
 refine (Q0) ?_
 refine (Qr) ?_
 refine (Q8) ?_
 refine (Q0) ?_
 refine (Mj) ?_
 rintro _ _ ⟨rfl, rfl⟩
 refine (Q0) ?_
 refine (Qr) ?_
 refine (Q3) ?_
 exact gY eK ⟨rfl, rfl⟩ (sub (aq .nil) ak)
theorem O1 (b : Nat) (B : List Int) (at_ : Nat) (out : List Int) (free : Int) (n : Int) (hl : B.length < 500000000) (ha : at_ ≤ 8 * B.length) (hn : 0 ≤ n ∧ n ≤ 24 ∧ 8 * (B.length : Int) - at_ < n) : az Tryz.prog 92 [.pointer (some ⟨b, 0, none⟩), .int .i64 n] [LW b B at_ out free] (rH fun ch G => ch = jz 194 (.agg #[]) ∧ G = [LW b B at_ out free]) := by
 refine (Nf) ?_
 intro w0 F
 refine rT TT 3 rfl ?_
 refine (QE) ?_
 refine (Q6) ?_
 refine (Q0) ?_
 refine (Qr) ?_
 refine (Q8) ?_
 refine (Q0) ?_
 refine (Mj) ?_
 rintro _ _ ⟨rfl, rfl⟩
 refine (Q0) ?_
 refine (Qu) ?_
 refine (Q3) ?_
 refine oV (cn V.Uk V.z194 rfl (cs := []) rfl) ?_
 refine oV (uk V.BS rfl) ?_
 refine vb rfl ?_
 skip
 exact xM (G := [LW b B at_ out free]) ⟨rfl, rfl⟩ (sub (aq .nil) ak)
theorem PQ (b : Nat) (B : List Int) (at_ : Nat) (out : List Int) (free : Int) (hl : B.length < 500000000) (hB : ag.an B) (ha : at_ < 8 * B.length) : az Tryz.prog 204 [.pointer (some ⟨b, 0, none⟩)] [LW b B at_ out free] (aG fun v G => v = .int .i64 (ag.ic B at_) ∧ G = [LW b B (at_ + 1) out free]) := by
 refine au [(0, _)] Tryz.func204 rfl Tryz.ntmps204 rfl rfl ?_
 intro w0 F
 refine (ql) ?_
 rintro ⟨p1, c1, p2, c2⟩ _
 dsimp only
 have hq : U5.g B ((at_ : Int) / 8) = B.getD (at_ / 8) 0 := gE (at_ / 8) (by omega)
 have hb := hB.get (at_ / 8)
 have hd := ag.wS hb.1 hb.2 (at_ % 8)
 have hb2 := ag.lU B at_
 refine (me) ?_
 refine wN [pz 0 [] [0], pz 1 [0] [], pz 3 [1] [], pz 7 [2] [], pz 15 [3] [], pz 0 [] [0], pz 32 [5] [], pz 96 [6] [], pz 224 [7] [], pz 480 [8] [], pz 992 [9] [], pz 2047 [4, 10] [], pz 4095 [11] [], pz 0 [] [0], pz 8192 [13] [], pz 24576 [14] [], pz 57344 [15] [], pz 122880 [16] [], pz 253952 [17] [], pz 524287 [12, 18] [], pz 1048575 [19] []] [⟨fun y => ai b 236 [.slice p1 B.length c1, .slice p2 out.length c2, .int .i64 (at_ : Int), .int .i64 free], none, none, [4, 9, 17]⟩, ⟨fun y => Row U5 p1 B.length c1 B, none, none, [11, 12]⟩, ⟨fun y => Row U5 p2 out.length c2 out, none, none, []⟩] F V.mixed ?_
 refine nM ?_
 refine nN ?_
 refine nG V.zg ?_
 refine nG V.Dc ?_
 refine (pY) ?_
 refine nM ?_
 refine nN ?_
 refine nG V.zg ?_
 refine nG V.w7 ?_
 refine (Qv) ?_
 refine (U1) ?_
 refine (DG) ?_
 refine (Ic) ?_
 refine nM ?_
 refine nN ?_
 refine nG V.zg ?_
 refine nG V.w7 ?_
 refine (Qv) ?_
 refine (MU) ?_
 refine nV (fun y hA L => dX (r := B.getD (at_ / 8) 0 / 2 ^ (at_ % 8)) rfl rfl (by omega) (by rw [hq]; exact ag.OJ hb.1 (by omega) (by omega))) ?_
 refine nA ?_
 refine (Qb) ?_
 intro y hA
 clear hA
 refine bj<|bE _ (.cons (d := 0) rfl (.cons (d := 3) rfl (.nil _)))<|(UL)<|(Qc)<|(Qf)<|(tt)<|(nc)<|(Q3) ?_
 refine oV (kt (r := ag.ic B at_) rfl rfl (ag.yi hd.1 hd.2))<|(QU)<|(Q8) ?_
 rw [show (at_ : Int) + 1 = ((at_ + 1 : Nat) : Int) from by omega]
 exact af (av rfl) ⟨rfl, rfl⟩ (aM (fp .nil) ak (fun w0 h hh => oJ hh))
theorem eN (b : Nat) (B : List Int) (at_ : Nat) (out : List Int) (free : Int) (n : Nat) (hl : B.length < 500000000) (hB : ag.an B) (hn : n ≤ 24) (ha : at_ + n ≤ 8 * B.length) : az Tryz.prog 183 [.pointer (some ⟨b, 0, none⟩), .int .i64 (n : Int)] [LW b B at_ out free] (aG fun v G => v = .int .i64 (ag.aK B at_ n) ∧ G = [LW b B (at_ + n) out free]) := by
 refine au [(0, _), (1, _)] Tryz.func183 rfl Tryz.ntmps183 rfl rfl ?_
 intro w0 F
 refine rT TT 11 rfl<|aj (Uf b B at_ out free n hl (by omega) (by omega)) V.NB  rfl (aq .nil) rfl ?_
 rintro _ _ ⟨rfl, rfl⟩
 refine (QI) ?_
 refine cB (fun (k : Nat) => [(0, .pointer (some ⟨b, 0, none⟩)), (5, .int .i64 (ag.aK B at_ k)), (12, .int .i64 (n : Int)), (13, .int .i64 (k : Int))]) (fun (k : Nat) => LW b B (at_ + k) out free :: F) (fun (k : Nat) => k ≤ n) (fun (k : Nat) => n - k) (i1 (0) ?_ (eG ln) (sub (aq .nil) ak)) ?_
 ·exact Nat.zero_le _
 intro k
 rintro hk
 refine (Qm) ?_
 refine aC rfl (fun h14 => ?_) (fun h14 => ?_)
 ·refine (QA) ?_
  have hb := ag.lU B (at_ + k)
  have hnb := ag.bG B at_ k
  refine (Q5) ?_
  refine aj (PQ b B (at_ + k) out free hl hB (by omega)) V.Xj  rfl (aq .nil) rfl ?_
  rintro _ _ ⟨rfl, rfl⟩
  refine (Q7) ?_
  refine oV (iQ (r := ag.ic B (at_ + k) * 2 ^ k) rfl rfl (by omega) (ag.TN hb (by omega) rfl))<|oV (qb (r := ag.aK B at_ k + ag.ic B (at_ + k) * 2 ^ k) rfl rfl (ag.Tx hnb.1 hnb.2 hb (by omega)))<|(QQ) ?_
  refine j1 (k + 1) ?_ (eG ln) (sub (aq .nil) ak)
  exact ⟨by omega, by omega⟩
 ·refine rC TT 12 rfl ?_
  obtain rfl : k = n := by omega
  exact af (av rfl) ⟨rfl, rfl⟩ (sub (aq .nil) ak)
theorem fw (b : Nat) (B : List Int) (at_ : Nat) (out : List Int) (free : Int) (n : Nat) (hl : B.length < 500000000) (hB : ag.an B) (hn : n ≤ 24) (ha : at_ ≤ 8 * B.length) (hx : 8 * B.length < at_ + n) : az Tryz.prog 183 [.pointer (some ⟨b, 0, none⟩), .int .i64 (n : Int)] [LW b B at_ out free] (rH fun ch G => ch = jz 194 (.agg #[]) ∧ G = [LW b B at_ out free]) := by
 refine au [(0, _), (1, _)] Tryz.func183 rfl Tryz.ntmps183 rfl rfl ?_
 intro w0 F
 refine rT TT 11 rfl<|da (O1 b B at_ out free n hl ha (by omega)) V.NB rfl (aq .nil) ?_
 rintro _ _ ⟨rfl, rfl⟩
 refine (cK ?_)
 exact xM (G := [LW b B at_ out free]) ⟨rfl, rfl⟩ (sub (aq .nil) ak)
theorem OH (b : Nat) (B : List Int) (at_ : Nat) (out : List Int) (free : Int) (hl : B.length < 500000000) (ha : at_ ≤ 8 * B.length) : az Tryz.prog 170 [.pointer (some ⟨b, 0, none⟩)] [LW b B at_ out free] (aG fun v G => v = .int .i64 (8 * (B.length : Int) - (at_ : Int)) ∧ G = [LW b B at_ out free]) := by
 refine au [(0, _)] Tryz.func170 rfl Tryz.ntmps170 rfl rfl ?_
 intro w0 F
 refine (QV)<|(C3)<|(Qg)<|(Mj) ?_
 rintro _ _ ⟨rfl, rfl⟩
 refine (Q8) ?_
 exact af (av rfl) ⟨rfl, rfl⟩ (sub (aq .nil) ak)
theorem G4 (p : Option Addr) (cap : Nat) (B : List Int) (R : ad) (hR : ∀ w0 h, R w0 h → aF U5 p B.length B w0 h) (hl : B.length < 500000000) : az Tryz.prog 166 [.slice p B.length cap] [R] (aG fun v G => ∃ b, v = .pointer (some ⟨b, 0, none⟩) ∧ G = [LW b B 0 [] 0, R]) := by
 refine au [(0, _)] Tryz.func166 rfl Tryz.ntmps166 rfl rfl ?_
 intro w0 F
 refine (QH) ?_
 refine aj (nq p cap B R hR hl) V.AJ  rfl (aq .nil) rfl ?_
 rintro _ _ ⟨q, c, rfl, rfl⟩
 refine (V6) ?_
 refine oV (cn V.TY V.z236 rfl (cs := [.slice q B.length c, .slice none 0 0, .int .i64 0, .int .i64 0]) rfl)<|(UW) ?_
 intro b7
 refine (Q8) ?_
 exact af (av rfl) ⟨b7, rfl, rfl⟩ ((cX (A := Row U5 none 0 0 []) (fun w0 => Row.nil _ _ _)).trans ((aM (.cons aw (.cons aw (aq .nil))) ak (fun w0 h hh => oJ (p1 := q) (c1 := c) (p2 := none) (c2 := 0) (B := B) (out := []) (at_ := 0) (free := 0) hh)).trans (sub (aO .nil) ak)))
end Go.Proofs.YtmaiakpjgomnpaaGreat
namespace Go.Proofs.YtmaiakpjgomnpaaGreat
open Go.Sl 
end Go.Proofs.YtmaiakpjgomnpaaGreat
namespace Go.Proofs.YtmaiakpjgomnpaaGreat
open Go.Sl 
attribute [local irreducible] ae.ord ae.gU ae.cC ae.bJ ae.bY ae.words ae.eX ae.lenOf ae.a7 ae.fL
attribute [local irreducible] ae.Xq ae.sy
end Go.Proofs.YtmaiakpjgomnpaaGreat
namespace Go.Proofs.YtmaiakpjgomnpaaGreat
open Go.Sl 
attribute [local irreducible] ae.ord ae.gU ae.cC ae.bJ ae.bY ae.words ae.eX ae.lenOf ae.a7 ae.fL ae.wd ae.lk ae.jN ae.nm ae.cls ae.off ae.tk
set_option maxHeartbeats 2000000 in
theorem P6 (b : Nat) (ls : List Int) (b2 : Nat) (B : List Int) (at_ : Nat) (out : List Int) (free : Int) (hE : ae.a7 ls = 0) (hl : B.length < 500000000) (hB : ag.an B) (ha : at_ ≤ 8 * B.length) : az Tryz.prog 201 [.pointer (some ⟨b, 0, none⟩), .pointer (some ⟨b2, 0, none⟩)] [HC b ls, LW b2 B at_ out free] (s8 (fun v G => ∃ n s, ae.tk ls B at_ = .vu n s ∧ v = .int .i64 s ∧ G = [HC b ls, LW b2 B (at_ + n) out free]) (fun ch G => (∃ n, ae.tk ls B at_ = .short n ∧ ch = jz 194 (.agg #[]) ∧ G = [HC b ls, LW b2 B (at_ + n) out free]) ∨ (∃ n, ae.tk ls B at_ = .none_ n ∧ ch = jz 237 (.agg #[]) ∧ G = [HC b ls, LW b2 B (at_ + n) out free]))) := by
 refine au [(0, _), (1, _)] Tryz.func201 rfl Tryz.ntmps201 rfl rfl ?_
 intro w0 F
 have hV := (ae.kU hE).1
 have hW := (ae.kU hE).2
 have hcl := ae.ju ls
 have hCb := ae.nX hV.1
 have hm15 := ae.My hV
 have hme := ae.Oy ls
 refine (ql) ?_
 rintro ⟨p1, c1, p2, c2⟩ _
 dsimp only
 rw [hme]
 refine rT TT 19 rfl ?_
 rw [show ((7 : Nat), Value.int .i64 0) = (7, .int .i64 (ae.off ls (0 + 1) : Int)) from by unfold ae.off; rfl]
 refine cB (fun (m : Nat) => [(0, .pointer (some ⟨b, 0, none⟩)), (1, .pointer (some ⟨b2, 0, none⟩)), (5, .int .i64 (ag.acc B at_ m)), (6, .int .i64 (ae.base ls m + ae.cnt ls m)), (7, .int .i64 (ae.off ls (m + 1) : Int)), (8, .int .i64 ((m : Int) + 1))]) (fun (m : Nat) => ai b 275 (CA [.slice p1 ls.length c1] .i64 (ae.bJ ls) [.slice p2 (ae.ord ls).length c2, .int .i64 (ae.ke ls : Int)]) :: Row pX p1 ls.length c1 (ae.words ls) :: Row I3 p2 (ae.ord ls).length c2 (ae.ord ls) :: LW b2 B (at_ + m) out free :: F) (fun (m : Nat) => ae.Tk ls B at_ m) (fun (m : Nat) => ae.ke ls - m) (i1 (0) ?_ (jt (bB ln)) (sub (lZ .nil) ak)) ?_
 ·exact ae.GL ha
 intro m
 rintro ht
 have htl := ht.le
 refine rL TT 7 rfl<|oV (kS (n := 16) 1 V.s3 rfl aB (by omega) rfl rfl)<|(Qi) ?_
 refine aC rfl (fun h14 => ?_) (fun h14 => ?_)
 ·have hcn := ae.PA (ls := ls) (m := m) (by omega)
  have hbf := ae.Be hW (n := m + 1) (by omega)
  have hbn := ae.rn ls (m + 1)
  have hc1 := ae.gT ls (m + 1)
  have hof := ae.E7 hV (m := m) (by omega)
  have hac := ag.pg B at_ (m + 1)
  have hac0 := ag.pg B at_ m
  have hp15 := ae.qp (show m + 1 ≤ 15 by omega)
  have hp14 := ae.qp (show m ≤ 15 by omega)
  have hb := ag.lU B (at_ + m)
  have hnn := ht.nn
  refine (Q4) ?_
  rcases (Nat.lt_or_ge (at_ + m) (8 * B.length)) with hx | hx
  ·refine (Q5)<|(UU)<|(Q7) ?_
   refine aj (eN b2 B (at_ + m) out free 1 hl hB (by omega) (by omega)) V.eg  rfl (.cons c9 .nil) rfl ?_
   rintro _ _ ⟨rfl, rfl⟩
   rw [ag.w8]
   refine oV (qb (r := ag.acc B at_ (m + 1)) rfl rfl (ag.E9 hac0.1 (by omega) hb))<|(Q1) ?_
   refine oV (iQ (r := ae.base ls (m + 1)) rfl rfl (by decide) (HE hW (by omega)))<|gV TT 13 rfl (by omega)<|(NJ)<|(Sk)<|(Qi) ?_
   refine aC rfl (fun h33 => ?_) (fun h33 => ?_)
   ·refine (Qa) ?_
    have hlt : ag.acc B at_ (m + 1) - ae.base ls (m + 1) < ae.cnt ls (m + 1) := by rw [← hcn]; exact h33
    have hat := ae.Rw (by omega) hnn hlt
    have hol : (ae.ord ls).length ≤ 320 := by rw [ae.uY]; exact ae.E7 hV (m := 15) (by omega)
    refine (Q4) ?_
    refine oV (kS (n := 16) 0 V.nz rfl dm (by omega) rfl rfl)<|(xb) ?_
    refine oV (xI V.cV (own iH))<|oV (xL V.s3 (own iH))<|(Qg) ?_
    rw [← hme]
    exact NR (G := [HC b ls, LW b2 B (at_ + (m + 1)) out free]) (av rfl) ⟨m + 1, _, ht.vu (by omega) hx hlt, by rw [← gE (c := I3) (e := (ae.off ls (m + 1) : Int) + ag.acc B at_ (m + 1) - ae.base ls (m + 1)) _ (by omega)], rfl⟩ ((aM (.cons aw (.cons aw (.cons aw .nil))) ak (fun w0 h hh => oI rfl hh)).trans (sub (aO .nil) ak))
   ·refine (kC)<|(NJ)<|(Sk)<|(AM)<|(NJ)<|(Sk)<|(AM) ?_
    rw [hcn, ← ae.qY ls (m + 1), show (m : Int) + 1 = ((m + 1 : Nat) : Int) from by omega]
    refine j1 (m + 1) ?_ (jt (bB ln)) (sub (.cons aw (.cons aw (.cons aw (aq .nil)))) ak)
    exact ⟨ht.XE (by omega) hx (by rw [← hcn]; assumption), by omega⟩
  ·refine (Q5)<|(UU)<|(Q7) ?_
   refine da (fw b2 B (at_ + m) out free 1 hl hB (by omega) ht.room (by omega)) V.eg rfl (.cons c9 .nil) ?_
   rintro _ _ ⟨rfl, rfl⟩
   refine (cK (eB (cK (cK (eB (cK ?_))))))
   rw [← hme]
   exact E3 (G := [HC b ls, LW b2 B (at_ + m) out free]) (.inl ⟨m, ht.short (by omega) (by omega), rfl, rfl⟩) ((aM (.cons aw (.cons aw (.cons aw .nil))) ak (fun w0 h hh => oI rfl hh)).trans (sub (aO .nil) ak))
 ·refine (Qc) ?_
  refine oV (cn V.Up V.MR rfl (cs := []) rfl)<|oV (uk V.HF rfl)<|vb rfl ?_
  skip
  rw [← hme]
  exact E3 (G := [HC b ls, LW b2 B (at_ + m) out free]) (.inr ⟨m, ht.none (by omega), rfl, rfl⟩) ((aM (fp .nil) ak (fun w0 h hh => oI rfl hh)).trans (sub (aO .nil) ak))
end Go.Proofs.YtmaiakpjgomnpaaGreat
namespace Go.Proofs.YtmaiakpjgomnpaaGreat
open Go.Sl 
theorem ES (p : Option Addr) (cap : Nat) (ls : List Int) (R : ad) (hR : ∀ w0 h, R w0 h → aF I3 p ls.length ls w0 h) (hE : ae.a7 ls = 0) : az Tryz.prog 195 [.slice p ls.length cap] [R] (aG fun v G => ∃ b, v = .tuple #[.pointer (some ⟨b, 0, none⟩), .int .i64 0] ∧ G = [HC b ls, R]) := by
 refine (Jy p cap ls R hR).mono ?_
 rintro e G ⟨v, rfl, h⟩
 rcases h with ⟨_, b, h1, h2⟩ | ⟨h, _⟩
 ·exact ⟨v, rfl, b, h1, h2⟩
 ·exact absurd hE h
theorem G8 (p : Option Addr) (cap : Nat) (ls : List Int) (R : ad) (hR : ∀ w0 h, R w0 h → aF I3 p ls.length ls w0 h) (hE : ¬ ae.a7 ls = 0) : az Tryz.prog 195 [.slice p ls.length cap] [R] (aG fun v G => v = .tuple #[.pointer none, .int .i64 (ae.a7 ls)] ∧ G = [R]) := by
 refine (Jy p cap ls R hR).mono ?_
 rintro e G ⟨v, rfl, h⟩
 rcases h with ⟨h, _⟩ | ⟨_, h1, h2⟩
 ·exact absurd h hE
 ·exact ⟨v, rfl, h1, h2⟩
end Go.Proofs.YtmaiakpjgomnpaaGreat
namespace Go.Proofs.YtmaiakpjgomnpaaGreat
open Go.Sl 
theorem nC (e : Int) : az Tryz.prog 197 [.bool true, .int .i64 e] [] (aG fun v G => v = .tuple #[] ∧ G = []) := by
 refine au [(0, _), (1, _)] Tryz.func197 rfl Tryz.ntmps197 rfl rfl ?_
 intro w0 F
 refine (QH) ?_
 exact gY eK ⟨rfl, rfl⟩ (sub .nil ak)
theorem kN (e : Int) : az Tryz.prog 197 [.bool false, .int .i64 e] [] (rH fun ch G => ch = jz 27 (.int .i64 e) ∧ G = []) := by
 refine au [(0, _), (1, _)] Tryz.func197 rfl Tryz.ntmps197 rfl rfl ?_
 intro w0 F
 refine (QV) ?_
 refine oV (uk V.EM rfl)<|vb rfl ?_
 skip
 exact xM (G := []) ⟨rfl, rfl⟩ (sub .nil ak)
theorem NO (b bl : Nat) (sz mo : Int) (li di : Value) (s : ab.St) (yb : Int) (hy : 0 ≤ yb ∧ yb < 256) (hm : mo < 1000000000) : az Tryz.prog 179 [.pointer (some ⟨b, 0, none⟩), .int .u8 yb] [MS b bl sz mo li di s] (gD (ab.dS mo s yb) (fun s2 v G => v = .tuple #[] ∧ G = [MS b bl sz mo li di s2]) [MX b bl sz mo]) := by
 refine au [(0, _), (1, _)] Tryz.func179 rfl Tryz.ntmps179 rfl rfl ?_
 intro w0 F
 refine (ql) ?_
 rintro ⟨po, co⟩ _
 dsimp only
 rcases (Classical.em ((s.out.length : Int) < mo)) with hx | hx
 ·refine rT TT 1 rfl ?_
  refine wN [pz 0 [] [0], pz 1 [0] [], pz 3 [1] [], pz 7 [2] [], pz 15 [3] [], pz 0 [] [0], pz 32 [5] [], pz 96 [6] [], pz 224 [7] [], pz 511 [4, 8] [], pz 1023 [9] []] [⟨fun y => ai b 223 [.pointer (some ⟨bl, 0, none⟩), .int .i64 sz, .int .i64 mo, .slice po s.out.length co, .bool s.ended, .int .i64 0, .int .i64 s.kind, .int .i64 (s.left : Int), .bool s.last, li, di, .int .i64 (s.ax : Int), .int .i64 (s.bA : Int)], none, none, [3, 8]⟩, ⟨fun y => Row U5 po s.out.length co s.out, none, none, []⟩] F V.mixed ?_
  refine nM ?_
  refine nN ?_
  refine nG V.jo ?_
  refine (pY) ?_
  refine (wH) ?_
  refine nM ?_
  refine nN ?_
  refine nG V.EL ?_
  refine (Qv) ?_
  refine nV (fun y hA L => cQ (dV rfl rfl) hx) ?_
  refine nE (fun y FF hA => aV (Post := []) (nC 6) V.kJ rfl .nil (fun v G h => by rcases h with ⟨rfl, rfl⟩; exact ⟨rfl, .refl _⟩)) ?_
  refine (Qb) ?_
  intro y hA
  clear hA
  refine bj<|bE _ (.cons (d := 0) rfl (.cons (d := 1) rfl (.nil _)))<|bo (M := ai b 223 [.pointer (some ⟨bl, 0, none⟩), .int .i64 sz, .int .i64 mo, .slice po s.out.length co, .bool s.ended, .int .i64 0, .int .i64 s.kind, .int .i64 (s.left : Int), .bool s.last, li, di, .int .i64 (s.ax : Int), .int .i64 (s.bA : Int)] :: Row U5 po s.out.length co s.out :: F) (fun _ _ h => h)<|(Qe)<|(vE)<|(Q7) ?_
  refine cH (U5) [yb] V.bN V.z5 rfl rfl rfl rfl rfl rfl ?_
  intro nf
  refine (Pl) ?_
  intro p22 c22
  refine (Q6)<|(US) ?_
  exact dh<|gv (x := { s with out := s.out ++ [yb] }) (by unfold ab.dS; rw [if_pos hx]) eK ⟨rfl, rfl⟩ ((aM (.cons bg (aq .nil)) bp (fun w0 h hh => cJ (s := { s with out := s.out ++ [yb] }) (by simp) hh)))
 ·refine rT TT 1 rfl ?_
  refine wN [pz 0 [] [0], pz 1 [0] [], pz 3 [1] [], pz 7 [2] [], pz 15 [3] [], pz 0 [] [0], pz 32 [5] [], pz 96 [6] [], pz 224 [7] [], pz 511 [4, 8] [], pz 1023 [9] []] [⟨fun y => ai b 223 [.pointer (some ⟨bl, 0, none⟩), .int .i64 sz, .int .i64 mo, .slice po s.out.length co, .bool s.ended, .int .i64 0, .int .i64 s.kind, .int .i64 (s.left : Int), .bool s.last, li, di, .int .i64 (s.ax : Int), .int .i64 (s.bA : Int)], none, none, [3, 8, 10]⟩, ⟨fun y => Row U5 po s.out.length co s.out, none, none, []⟩] F V.mixed ?_
  refine nM ?_
  refine nN ?_
  refine nG V.jo ?_
  refine (pY) ?_
  refine (wH) ?_
  refine nM ?_
  refine nN ?_
  refine nG V.EL ?_
  refine (Qv) ?_
  refine nV (fun y hA L => bV (dV rfl rfl) hx) ?_
  refine aU (undef) _ _ (fun y => rfl) rfl (fun y => rfl) (fun y FF hA => eW (kN 6) V.kJ rfl .nil (by rintro _ _ ⟨rfl, rfl⟩; exact ko (by unfold ab.dS; rw [if_neg hx]) (PE.no (by decide)) (aM (aq .nil) (by exact vo (M := FF) (F := F)) (fun w0 h hh => bP hh)))) ?_
  refine (Qb) ?_
  intro y hA
  exact (cE.fact (hA 10 (by exact Nat.le_of_ble_eq_true rfl)) (q := fun _ => False) rfl).elim
end Go.Proofs.YtmaiakpjgomnpaaGreat
namespace Go.Proofs.YtmaiakpjgomnpaaGreat
open Go.Sl 
attribute [local irreducible] ae.a7 ae.tk ae.ord ae.bJ ae.words ae.bY ab.gM ab.gH
theorem EC (p : Option Addr) (n cap : Nat) (ls : List Int) (R : ad) (hn : n = ls.length) (hR : ∀ w0 h, R w0 h → aF I3 p ls.length ls w0 h) : az Tryz.prog 221 [.slice p n cap] [R] (gD (ab.im ls) (fun _ v G => ∃ b, v = .pointer (some ⟨b, 0, none⟩) ∧ G = [HC b ls, R]) []) := by
 subst hn
 refine au [(0, _)] Tryz.func221 rfl Tryz.ntmps221 rfl rfl ?_
 intro w0 F
 refine (QO) ?_
 rcases (Classical.em (ae.a7 ls = 0)) with hE | hE
 ·refine (Q5) ?_
  refine aj (ES p cap ls R hR hE) V.MP  rfl (aq .nil) rfl ?_
  rintro _ _ ⟨bh, rfl, rfl⟩
  refine (Qg) ?_
  refine oV (cQ (dE rfl rfl) rfl)<|(D7) ?_
  rintro _ _ ⟨rfl, rfl⟩
  refine (Qn) ?_
  exact jU (x := ()) (by unfold ab.im; rw [if_pos hE]) (av rfl) ⟨bh, rfl, rfl⟩ (sub (aO .nil) ak)
 ·refine (Q5) ?_
  refine aj (G8 p cap ls R hR hE) V.MP  rfl (aq .nil) rfl ?_
  rintro _ _ ⟨rfl, rfl⟩
  refine (Qg) ?_
  refine oV (bV (dE rfl rfl) hE)<|(zH) ?_
  rintro _ _ ⟨rfl, rfl⟩
  refine (cK ?_)
  exact dk (e := 4) (by unfold ab.im; rw [if_neg hE]) (PE.no (by decide)) (sub .nil bp)
theorem By (x : Int) (n : Nat) (hn : n < 1000000) : az Tryz.prog 220 [.int .i64 x, .int .i64 (n : Int)] [] (aG fun v G => ∃ p c, v = .slice p n c ∧ G = [Row I3 p n c (List.replicate n x)]) := by
 refine au [(0, _), (1, _)] Tryz.func220 rfl Tryz.ntmps220 rfl rfl ?_
 intro w0 F
 refine rT TT 18 rfl<|iT (Row I3 none 0 0 (List.replicate 0 x)) (Row.nil _ _ _) ?_
 refine fN (fun (k : Nat) (po : Option Addr) (co : Nat) => [(0, .int .i64 x), (5, .slice po k co), (6, .int .i64 (n : Int)), (7, .int .i64 (k : Int))]) (fun (k : Nat) (po : Option Addr) (co : Nat) => Row I3 po k co (List.replicate k x) :: F) (fun (k : Nat) (po : Option Addr) (co : Nat) => k ≤ n) (fun (k : Nat) (po : Option Addr) (co : Nat) => n - k) (i3 (0) (none) (0) ?_ (eG ln) (sub (aq .nil) ak)) ?_
 ·exact Nat.zero_le _
 intro k po co
 rintro hk
 refine (Qm) ?_
 refine aC rfl (fun h8 => ?_) (fun h8 => ?_)
 ·refine (Qs) ?_
  refine cH (I3) [x] V.cV V.z3 rfl rfl rfl rfl rfl rfl ?_
  intro b11
  refine (Ww) ?_
  intro p12 c12
  refine (QQ) ?_
  rw [← List.replicate_succ']
  refine j3 (k + 1) (_) (_) ?_ (eG ln) (sub (aq .nil) bp)
  exact ⟨by omega, by omega⟩
 ·refine rC TT 12 rfl ?_
  obtain rfl : k = n := by omega
  exact af (av rfl) ⟨po, co, rfl, rfl⟩ (sub (aq .nil) ak)
theorem Ly  : az Tryz.prog 222 [] [] (aG fun v G => ∃ p, v = .slice p 19 19 ∧ G = [Row I3 p 19 19 ab.ly]) := by
 refine au [] Tryz.func222 rfl Tryz.ntmps222 rfl rfl ?_
 intro w0 F
 refine rT TT 7 rfl<|cH (I3) [16, 17, 18, 0, 8, 7, 9, 6, 10, 5, 11, 4, 12, 3, 13, 2, 14, 1, 15] V.cV V.z3 rfl rfl rfl rfl rfl rfl ?_
 intro b1
 refine (Q8) ?_
 exact af (av rfl) ⟨_, rfl, rfl⟩ (sub (aq .nil) ak)
theorem KR (b : Nat) (B : List Int) (at_ : Nat) (out : List Int) (free : Int) (hl : B.length < 500000000) (ha : at_ ≤ 8 * B.length) : az Tryz.prog 198 [.pointer (some ⟨b, 0, none⟩)] [LW b B at_ out free] (aG fun v G => v = .tuple #[] ∧ G = [LW b B (ab.cI at_) out free]) := by
 refine au [(0, _)] Tryz.func198 rfl Tryz.ntmps198 rfl rfl ?_
 intro w0 F
 refine (ql) ?_
 rintro ⟨p1, c1, p2, c2⟩ _
 dsimp only
 refine (me)<|(Qf)<|(ny)<|(o8)<|(tt)<|(nc) ?_
 refine dh ?_
 rw [show ((at_ : Int) + 8 - 1) / 8 * 8 = ((ab.cI at_ : Nat) : Int) from by unfold ab.cI; omega]
 exact gY eK ⟨rfl, rfl⟩ (aM (fp .nil) ak (fun w0 h hh => oJ hh))
theorem mS (b : Nat) (ls : List Int) (b2 : Nat) (B : List Int) (at_ : Nat) (out : List Int) (free : Int) (hE : ae.a7 ls = 0) (hl : B.length < 500000000) (hB : ag.an B) (ha : at_ ≤ 8 * B.length) : az Tryz.prog 201 [.pointer (some ⟨b, 0, none⟩), .pointer (some ⟨b2, 0, none⟩)] [HC b ls, LW b2 B at_ out free] (gD (ab.sym ls B at_) (fun x v G => v = .int .i64 x.1 ∧ G = [HC b ls, LW b2 B x.2 out free]) []) := by
 intro w0 F w hi
 refine (P6 b ls b2 B at_ out free hE hl hB ha w0 F w hi).mono ?_
 rintro e w' ⟨G, h1, (⟨v, rfl, n', s', h, rfl, rfl⟩ | ⟨ch, rfl, (⟨n', h, rfl, rfl⟩ | ⟨n', h, rfl, rfl⟩)⟩)⟩
 ·exact ⟨_, h1, .inl ⟨_, rfl, (s', at_ + n'), by unfold ab.sym; rw [h], rfl, rfl⟩⟩
 ·exact ⟨[], h1.right, .inr ⟨_, rfl, 2, by unfold ab.sym; rw [h], PE.end_, rfl⟩⟩
 ·exact ⟨[], h1.right, .inr ⟨_, rfl, 4, by unfold ab.sym; rw [h], PE.none_, rfl⟩⟩
end Go.Proofs.YtmaiakpjgomnpaaGreat
namespace Go.Proofs.YtmaiakpjgomnpaaGreat
open Go.Sl 
attribute [local irreducible] ae.a7 ae.tk ae.ord ae.bJ ae.words ae.bY ab.gM ab.gH
theorem zx (b bl : Nat) (sz mo : Int) (po : Option Addr) (no co : Nat) (li di : Value) (s : ab.St) : az Tryz.prog 182 [.pointer (some ⟨b, 0, none⟩)] [ai b 223 [.pointer (some ⟨bl, 0, none⟩), .int .i64 sz, .int .i64 mo, .slice po no co, .bool s.ended, .int .i64 0, .int .i64 s.kind, .int .i64 (s.left : Int), .bool s.last, li, di, .int .i64 (s.ax : Int), .int .i64 (s.bA : Int)]] (aG fun v G => v = .tuple #[] ∧ G = [ai b 223 [.pointer (some ⟨bl, 0, none⟩), .int .i64 sz, .int .i64 mo, .slice po no co, .bool s.last, .int .i64 0, .int .i64 (-1), .int .i64 (s.left : Int), .bool s.last, li, di, .int .i64 (s.ax : Int), .int .i64 (s.bA : Int)]]) := by
 refine au [(0, _)] Tryz.func182 rfl Tryz.ntmps182 rfl rfl ?_
 intro w0 F
 refine (me)<|(oT)<|(Q6)<|(nc)<|(Q6)<|(Am) ?_
 exact dh<|gY eK ⟨rfl, rfl⟩ (sub (aq .nil) ak)
set_option maxHeartbeats 1000000 in
theorem I5 (b bl : Nat) (sz mo : Int) (po : Option Addr) (no co : Nat) (li di : Value) (s : ab.St) (B : List Int) (a : Nat) (sy : Int) (pl : Option Addr) (cl : Nat) (l : List Int) (hs : 0 ≤ sy ∧ sy ≤ 18) (hl : B.length < 500000000) (hB : ag.an B) (ha : a ≤ 8 * B.length) (hll : l.length < 1000000) : az Tryz.prog 223 [.pointer (some ⟨b, 0, none⟩), .int .i64 sy, .slice pl l.length cl] [ai b 223 [.pointer (some ⟨bl, 0, none⟩), .int .i64 sz, .int .i64 mo, .slice po no co, .bool s.ended, .int .i64 0, .int .i64 s.kind, .int .i64 (s.left : Int), .bool s.last, li, di, .int .i64 (s.ax : Int), .int .i64 (s.bA : Int)], LW bl B a [] 0, Row I3 pl l.length cl l] (gD (ab.rep B sy l a) (fun x v G => v = .tuple #[.int .i64 x.1, .int .i64 x.2.1] ∧ G = [ai b 223 [.pointer (some ⟨bl, 0, none⟩), .int .i64 sz, .int .i64 mo, .slice po no co, .bool s.ended, .int .i64 0, .int .i64 s.kind, .int .i64 (s.left : Int), .bool s.last, li, di, .int .i64 (s.ax : Int), .int .i64 (s.bA : Int)], LW bl B x.2.2 [] 0, Row I3 pl l.length cl l]) [MX b bl sz mo]) := by
 refine au [(0, _), (1, _), (2, _)] Tryz.func223 rfl Tryz.ntmps223 rfl rfl ?_
 intro w0 F
 refine rT TT 19 rfl ?_
 refine aC rfl (fun h10 => ?_) (fun h10 => ?_)
 ·rcases (Nat.lt_or_ge (8 * B.length) (a + 2)) with hx | hx
  ·refine (Qa) ?_
   have hy : sy = 16 := h10
   subst hy
   have hnb := ag.bG B a 2
   refine (Q4)<|(pL) ?_
   refine da (fw bl B a [] 0 2 hl hB (by omega) (by omega) (by omega)) V.eg rfl (.cons aw .nil) ?_
   rintro _ _ ⟨rfl, rfl⟩
   refine (cK (eB (cK ?_)))
   exact dk (e := 2) (ab.ph (by decide) (show 8 * B.length < a + 2 from hx)) PE.end_ (aM (.cons aw .nil) fP (fun w0 h hh => bP hh))
  ·refine (Qa) ?_
   have hy : sy = 16 := h10
   subst hy
   have hnb := ag.bG B a 2
   refine (Q4)<|(pL) ?_
   refine aj (eN bl B a [] 0 2 hl hB (by omega) (by omega)) V.eg  rfl (.cons aw .nil) rfl ?_
   rintro _ _ ⟨rfl, rfl⟩
   refine (tt) ?_
   rcases (Nat.eq_zero_or_pos l.length) with hl0 | hl0
   ·refine (Q4)<|(Qr)<|(zH) ?_
    rintro _ _ ⟨rfl, rfl⟩
    refine (cK (eB (cK ?_)))
    exact dk (e := 4) (ab.Gn rfl (List.length_eq_zero_iff.1 hl0) (show ¬ 8 * B.length < a + 2 from by omega)) (PE.no (by decide)) (aM (.cons aw .nil) fP (fun w0 h hh => bP hh))
   ·refine (Q4)<|(Qu)<|(D7) ?_
    rintro _ _ ⟨rfl, rfl⟩
    refine (Qi) ?_
    have hgl : I3.g l ((l.length : Int) - 1) = l.getD (l.length - 1) 0 := gE _ (by omega)
    refine jW TT 5 rfl (by omega)<|oV (xI V.cV (own dW))<|oV (xL V.s3 (own dW))<|(Qk) ?_
    rw [hgl]
    exact jU (x := (l.getD (l.length - 1) 0, 3 + ag.aK B a 2, a + 2)) (ab.yP (by decide) (show ¬ 8 * B.length < a + 2 from by omega) (fun h => by rw [h.2] at hl0; simp at hl0)) (ez rfl rfl) ⟨rfl, rfl⟩ (sub (.cons aw (aO .nil)) ak)
 ·refine (Qc) ?_
  refine aC rfl (fun h29 => ?_) (fun h29 => ?_)
  ·rcases (Nat.lt_or_ge (8 * B.length) (a + 3)) with hx | hx
   ·refine (Qa) ?_
    have hy : sy = 17 := h29
    subst hy
    have hnb := ag.bG B a 3
    refine (Q4)<|(pL) ?_
    refine da (fw bl B a [] 0 3 hl hB (by omega) (by omega) (by omega)) V.eg rfl (.cons aw .nil) ?_
    rintro _ _ ⟨rfl, rfl⟩
    refine (cK (eB (cK ?_)))
    exact dk (e := 2) (ab.ph (by decide) (show 8 * B.length < a + 3 from hx)) PE.end_ (aM (.cons aw .nil) fP (fun w0 h hh => bP hh))
   ·refine (Qa) ?_
    have hy : sy = 17 := h29
    subst hy
    have hnb := ag.bG B a 3
    refine (Q4)<|(pL) ?_
    refine aj (eN bl B a [] 0 3 hl hB (by omega) (by omega)) V.eg  rfl (.cons aw .nil) rfl ?_
    rintro _ _ ⟨rfl, rfl⟩
    refine (QQ) ?_
    exact jU (x := (0, 3 + ag.aK B a 3, a + 3)) (ab.yP (by decide) (show ¬ 8 * B.length < a + 3 from by omega) (fun h => absurd h.1 (by decide))) (ez rfl rfl) ⟨rfl, rfl⟩ (sub (.cons aw (aO .nil)) ak)
  ·refine (Qc) ?_
   refine aC rfl (fun h37 => ?_) (fun h37 => ?_)
   ·rcases (Nat.lt_or_ge (8 * B.length) (a + 7)) with hx | hx
    ·refine (Qa) ?_
     have hy : sy = 18 := h37
     subst hy
     have hnb := ag.bG B a 7
     refine (Q4)<|(pL) ?_
     refine da (fw bl B a [] 0 7 hl hB (by omega) (by omega) (by omega)) V.eg rfl (.cons aw .nil) ?_
     rintro _ _ ⟨rfl, rfl⟩
     refine (cK (eB (cK ?_)))
     exact dk (e := 2) (ab.ph (by decide) (show 8 * B.length < a + 7 from hx)) PE.end_ (aM (.cons aw .nil) fP (fun w0 h hh => bP hh))
    ·refine (Qa) ?_
     have hy : sy = 18 := h37
     subst hy
     have hnb := ag.bG B a 7
     refine (Q4)<|(pL) ?_
     refine aj (eN bl B a [] 0 7 hl hB (by omega) (by omega)) V.eg  rfl (.cons aw .nil) rfl ?_
     rintro _ _ ⟨rfl, rfl⟩
     refine (QQ) ?_
     exact jU (x := (0, 11 + ag.aK B a 7, a + 7)) (ab.yP (by decide) (show ¬ 8 * B.length < a + 7 from by omega) (fun h => absurd h.1 (by decide))) (ez rfl rfl) ⟨rfl, rfl⟩ (sub (.cons aw (aO .nil)) ak)
   ·refine (o5) ?_
    exact jU (x := (sy, 1, a)) (ab.Ox (by omega)) (ez rfl rfl) ⟨rfl, rfl⟩ (sub (fp .nil) ak)
end Go.Proofs.YtmaiakpjgomnpaaGreat
namespace Go.Sl
section
variable {C : Ctx} {E : Env} {L F : List ad} {ops : Array Oper} {d : Option Nat} {ty : TypeId} {pos : String} {aft : Array Edge}
theorem n7 {A : Nat → ad} {f : FuncId} {args : List Operand} {tys : Array TypeId} {vs : List Value} {Pre Post : List ad} (hS : az C.P f vs Pre (aG fun v G => ∃ b, v = .pointer (some ⟨b, 0, none⟩) ∧ G = A b :: Post)) (hb : ay C.P f = true) (hE : gL E args = some vs) (hL : eI L Pre F) :
    Step C ops ⟨d, .call ⟨.value (.func f), args.toArray, tys⟩, ty, pos, aft, none⟩ E L (fun v L' => v = .pointer (some ⟨fe v, 0, none⟩) ∧ True ∧ L'.Perm ((A (fe v) :: Post) ++ F)) :=
  ri hS hb hE hL fun v G ⟨b, e1, e2⟩ => by subst e1; subst e2; exact ⟨rfl, trivial, .refl _⟩
theorem jx {t n e sz : Nat} {parts : List (Nat × Operand)} {pv : List (Nat × Value)} {zs cs : List Value} (har : iX C.P t = some (n, e, sz)) (hz : cu C.P t = some zs) (hp : ow E parts = some pv) (hf : Instr.fill (fun i => some (i * sz, sz)) zs.toArray pv = some cs.toArray) :
    bC C (.build t parts.toArray) ty E L (.agg cs.toArray) L :=
  cM fun d pos aft g a w ha => by
    obtain ⟨i', z, hz1, hz2, hz3, hz4⟩ := jw hz
    have hmap : parts.toArray.map (fun x => match x with | (i, x) => (i, a.eval x)) = pv.toArray := by
      rw [← mD hp a ha]; simp
    unfold iX at har
    split at har
    · rename_i n' e' hfs
      split at har
      · rename_i i hi
        cases har
        simp only [execOp, hmap, Instr.build, Sem.run_bind, zeroValue, typeInfo, run_program, Result.andThen_ok, hz1, hz2, Sem.run_pure, run_underlying hfs, run_sizeOf hi, hz3]
        simp [hf]
      · cases har
    · cases har
end
theorem oD {p : Option Addr} {n c m : Nat} {l : List Int} {w0 : World} {h : Hp} (hn : n = l.length) (hm : m ≤ n) (hh : Row I3 p n c l w0 h) : aF I3 p (l.take m).length (l.take m) w0 h := by
  have := hh.rd.sub 0 m m (Nat.zero_le _) hm (Nat.le_refl _)
  rw [mI, Nat.sub_zero, List.drop_zero] at this
  rw [List.length_take, ← hn, Nat.min_eq_left hm]
  exact this
theorem wO {p : Option Addr} {n c m : Nat} {l : List Int} {w0 : World} {h : Hp} (hn : n = l.length) (hm : m ≤ n) (hc : n ≤ c) (hh : Row I3 p n c l w0 h) : aF I3 (dq p m c 1) (l.drop m).length (l.drop m) w0 h := by
  have := hh.rd.sub m n c hm (Nat.le_refl _) hc
  rw [List.take_of_length_le (by rw [List.length_drop]; omega)] at this
  rw [List.length_drop, ← hn]
  exact this
theorem sP {p : Option Addr} {n c : Nat} {l : List Int} {w0 : World} {h : Hp} (hn : n = l.length) (hh : Row I3 p n c l w0 h) : aF I3 p l.length l w0 h := by subst hn; exact hh.rd
end Go.Sl
namespace Go.Proofs.YtmaiakpjgomnpaaGreat
open Go.Sl 
attribute [local irreducible] ae.a7 ae.tk ae.ord ae.bJ ae.words ae.bY ab.gH ab.bR ab.cx ab.dj ab.hL ab.hD ab.hC ab.eE ab.told ab.eY ab.im ab.rep
abbrev P2 : Ec (Int × Int) := ⟨246, 2, fun x => [.int .i64 x.1, .int .i64 x.2], (0, 0), fun _ => rfl, fun _ => rfl⟩
theorem kP (p : Option Addr) (n cap : Nat) (ls : List Int) (R : ad) (hn : n = ls.length) (hR : ∀ w0 h, R w0 h → aF I3 p ls.length ls w0 h) (hE : ae.a7 ls = 0) : az Tryz.prog 221 [.slice p n cap] [R] (aG fun v G => ∃ b, v = .pointer (some ⟨b, 0, none⟩) ∧ G = [HC b ls, R]) :=
 (EC p n cap ls R hn hR).ok (x := ()) (by unfold ab.im; rw [if_pos hE])
theorem ux (p : Option Addr) (n cap : Nat) (ls : List Int) (R : ad) (hn : n = ls.length) (hR : ∀ w0 h, R w0 h → aF I3 p ls.length ls w0 h) (hE : ae.a7 ls ≠ 0) : az Tryz.prog 221 [.slice p n cap] [R] (rH fun ch G => PE 4 ch ∧ G = []) :=
 (EC p n cap ls R hn hR).err (by unfold ab.im; rw [if_neg hE])
theorem FJ (x n : Int) (hn : 0 ≤ n ∧ n < 1000000) : az Tryz.prog 220 [.int .i64 x, .int .i64 n] [] (aG fun v G => ∃ p c, v = .slice p n.toNat c ∧ G = [Row I3 p n.toNat c (List.replicate n.toNat x)]) := by
 have h := By x n.toNat (by omega)
 rw [Int.toNat_of_nonneg hn.1] at h
 exact h
theorem KD (b bl : Nat) (sz mo : Int) (po : Option Addr) (no co : Nat) (li di : Value) (s : ab.St) : az Tryz.prog 199 [.pointer (some ⟨b, 0, none⟩)] [ai b 223 [.pointer (some ⟨bl, 0, none⟩), .int .i64 sz, .int .i64 mo, .slice po no co, .bool s.ended, .int .i64 0, .int .i64 s.kind, .int .i64 (s.left : Int), .bool s.last, li, di, .int .i64 (s.ax : Int), .int .i64 (s.bA : Int)]] (aG fun v G => ∃ l d, v = .tuple #[] ∧ G = [ai b 223 [.pointer (some ⟨bl, 0, none⟩), .int .i64 sz, .int .i64 mo, .slice po no co, .bool s.ended, .int .i64 0, .int .i64 s.kind, .int .i64 (s.left : Int), .bool s.last, (.pointer (some ⟨l, 0, none⟩)), (.pointer (some ⟨d, 0, none⟩)), .int .i64 (s.ax : Int), .int .i64 (s.bA : Int)], HC l ab.eY, HC d ab.kz]) := by
 refine au [(0, _)] Tryz.func199 rfl Tryz.ntmps199 rfl rfl ?_
 intro w0 F
 refine (QH) ?_
 iterate 4 refine oV (jx V.CC V.Ha rfl (cs := [_, _]) rfl) ?_
 refine cH (P2) ab.ib V.JK V.Ha rfl rfl rfl rfl rfl rfl ?_
 intro b9
 refine (Q3) ?_
 refine iT (Row I3 none 0 0 (ab.gM 0)) (Row.nil _ _ _) ?_
 refine fN (fun (k : Nat) (pr : Option Addr) (cr : Nat) => [(0, .pointer (some ⟨b, 0, none⟩)), (2, .slice pr (ab.gM k).length cr), (9, .slice (some ⟨b9, 0, none⟩) 4 4), (10, .int .i64 4), (11, .int .i64 (k : Int))]) (fun (k : Nat) (pr : Option Addr) (cr : Nat) => Row I3 pr (ab.gM k).length cr (ab.gM k) :: Row P2 (some ⟨b9, 0, none⟩) 4 4 ab.ib :: ai b 223 [.pointer (some ⟨bl, 0, none⟩), .int .i64 sz, .int .i64 mo, .slice po no co, .bool s.ended, .int .i64 0, .int .i64 s.kind, .int .i64 (s.left : Int), .bool s.last, li, di, .int .i64 (s.ax : Int), .int .i64 (s.bA : Int)] :: F) (fun (k : Nat) (pr : Option Addr) (cr : Nat) => k ≤ 4) (fun (k : Nat) (pr : Option Addr) (cr : Nat) => 4 - k) (i3 (0) (none) (0) ?_ (bB ln) (sub (fp .nil) ak)) ?_
 ·exact Nat.zero_le _
 intro k pr cr
 rintro hk
 refine (Qm) ?_
 refine aC rfl (fun h12 => ?_) (fun h12 => ?_)
 ·refine (Qc) ?_
  refine oV (xI V.JK (own dm))<|oV (kT (c := (P2)) V.Sw rfl (own dm) (by omega) (by omega) rfl)<|cS V.Ha rfl ?_
  intro b4
  refine cy (bb V.Sw rfl rfl (us := [_, _]) rfl rfl (by exact fI) (by exact Nat.le_of_ble_eq_true rfl) rfl)<|(Q6) ?_
  have hf1 : 0 ≤ (P2.g ab.ib (k : Int)).2 ∧ (P2.g ab.ib (k : Int)).2 < 200 := ab.Oj (by omega)
  have hf2 := ab.Kr k (by omega)
  refine (Q9) ?_
  refine oV (fQ 0 rfl V.CC rfl rfl (by omega))<|(Qf) ?_
  refine oV (fQ 1 rfl V.CC rfl rfl (by omega))<|(Qf) ?_
  refine aj (FJ (P2.g ab.ib (k : Int)).1 (P2.g ab.ib (k : Int)).2 (by omega)) V.Cj  rfl .nil rfl ?_
  rintro _ _ ⟨p20, c20, rfl, rfl⟩
  refine eh (c := (I3)) V.cV V.z3 rfl rfl rfl rfl bg (own aB) (by omega) rfl ?_
  intro p21 c21
  refine (QQ) ?_
  have hst : ab.gM (k + 1) = ab.gM k ++ List.replicate (P2.g ab.ib (k : Int)).2.toNat (P2.g ab.ib (k : Int)).1 := ab.EO k
  have hsl : (ab.gM (k + 1)).length = (ab.gM k).length + (P2.g ab.ib (k : Int)).2.toNat := by rw [hst, List.length_append, List.length_replicate]
  rw [← hst, ← hsl]
  refine j3 (k + 1) (_) (_) ?_ (bB ln) (sub (aq (.cons bg (.cons bg .nil))) fP)
  exact ⟨by omega, by omega⟩
 ·refine (Qe) ?_
  have hk4 : k = 4 := by omega
  have hfl : ae.a7 (ab.gM k) = 0 := by rw [hk4, ab.EF]; exact ab.Bi
  refine (Q4) ?_
  refine aj (kP pr (ab.gM k).length cr (ab.gM k) (Row I3 pr (ab.gM k).length cr (ab.gM k)) rfl (fun _ _ hh => sP rfl hh) hfl) V.mZ  rfl (aq .nil) rfl ?_
  rintro _ _ ⟨l26, rfl, rfl⟩
  refine aj (By 5 32 (by omega)) V.Cj  rfl .nil rfl ?_
  rintro _ _ ⟨p27, EM, rfl, rfl⟩
  refine aj (kP p27 32 EM (List.replicate 32 5) (Row I3 p27 32 EM (List.replicate 32 5)) rfl (fun _ _ hh => sP rfl hh) ab.Bb) V.mZ  rfl (aq .nil) rfl ?_
  rintro _ _ ⟨d28, rfl, rfl⟩
  refine (Q6)<|(VD)<|(Q6)<|(VD) ?_
  refine dh ?_
  rw [hk4, ab.EF]
  exact gY eK ⟨l26, d28, rfl, rfl⟩ (sub (.cons jM (.cons bg (aq .nil))) mw)
end Go.Proofs.YtmaiakpjgomnpaaGreat
namespace Go.Proofs.YtmaiakpjgomnpaaGreat
open Go.Sl 
theorem cg : jL Tryz.prog ⟨[47], [(223, 0, 0)]⟩ = true := by kernel_rfl
attribute [local irreducible] ae.a7 ae.tk ae.ord ae.bJ ae.words ae.bY ab.gH ab.bR ab.cx ab.dj ab.hL ab.hD ab.hC ab.eE ab.told ab.eY ab.im ab.rep
set_option maxHeartbeats 4000000 in
theorem DY (b bl : Nat) (sz mo : Int) (po : Option Addr) (no co : Nat) (li di : Value) (s : ab.St) (B : List Int) (a : Nat) (hl : B.length < 500000000) (hB : ag.an B) (ha : a ≤ 8 * B.length) : az Tryz.prog 200 [.pointer (some ⟨b, 0, none⟩)] [ai b 223 [.pointer (some ⟨bl, 0, none⟩), .int .i64 sz, .int .i64 mo, .slice po no co, .bool s.ended, .int .i64 0, .int .i64 s.kind, .int .i64 (s.left : Int), .bool s.last, li, di, .int .i64 (s.ax : Int), .int .i64 (s.bA : Int)], LW bl B a [] 0] (gD (ab.told B a) (fun x v G => ∃ l d, v = .tuple #[] ∧ G = [ai b 223 [.pointer (some ⟨bl, 0, none⟩), .int .i64 sz, .int .i64 mo, .slice po no co, .bool s.ended, .int .i64 0, .int .i64 s.kind, .int .i64 (s.left : Int), .bool s.last, (.pointer (some ⟨l, 0, none⟩)), (.pointer (some ⟨d, 0, none⟩)), .int .i64 (s.ax : Int), .int .i64 (s.bA : Int)], LW bl B x.1 [] 0, HC l x.2.1, HC d x.2.2]) [MX b bl sz mo]) := by
 refine au [(0, _)] Tryz.func200 rfl Tryz.ntmps200 rfl rfl ?_
 intro w0 F
 have hn1 := ag.bG B a 5
 have hn2 := ag.bG B (a + 5) 5
 have hn3 := ag.bG B (a + 10) 4
 obtain ⟨he1, he2, he3, he4, he5, he6, he7, he8⟩ := ab.C5 B a
 have hNN : ab.cx B a = ab.hL B a + ab.hD B a := ab.xk B a
 have hAA : ab.dj B a = a + 14 + 3 * ab.hC B a := ab.xi B a
 rcases (ab.T5 B.length a) with hx | ⟨hx1, hx⟩ | ⟨hx1, hx⟩ | h14
 ·refine rT cg 1 rfl ?_
  refine wN [pz 0 [] [0], pz 1 [0] [], pz 3 [1] [], pz 7 [2] [], pz 15 [3] [], pz 31 [4] [], pz 0 [] [0], pz 64 [6] [], pz 192 [7] [], pz 448 [8] [], pz 991 [9] [], pz 2015 [10] [], pz 0 [] [0], pz 4096 [12] [], pz 12288 [13] [], pz 28672 [14] [], pz 63455 [15] [], pz 128991 [16] [], pz 129023 [5] [], pz 393215 [11] [], pz 1048575 [17] []] [⟨fun y => ai b 223 [.pointer (some ⟨bl, 0, none⟩), .int .i64 sz, .int .i64 mo, .slice po no co, .bool s.ended, .int .i64 0, .int .i64 s.kind, .int .i64 (s.left : Int), .bool s.last, li, di, .int .i64 (s.ax : Int), .int .i64 (s.bA : Int)], none, none, [3, 4, 9, 15]⟩, ⟨fun y => LW bl B a [] 0, none, none, [4]⟩] F V.mixed ?_
  refine nM ?_
  refine nN ?_
  refine nG V.gu ?_
  refine nR (fun y FF hA => aA V.fW rfl aB rfl) ?_
  refine aU (undef) _ _ (fun y => rfl) rfl (fun y => rfl) (fun y FF hA => eW (fw bl B a [] 0 5 hl hB (by omega) (by omega) (by omega)) V.eg rfl (.cons aw .nil) (by rintro _ _ ⟨rfl, rfl⟩; exact ko (ab.tO (by omega)) PE.end_ (aM (.cons aw .nil) (by exact zl (M := FF) (F := F)) (fun w0 h hh => bP hh)))) ?_
  refine aU (.bool true) _ _ (fun y => rfl) rfl (fun y => rfl) (fun y FF hA => (cE.fact (hA 4 (by decide)) (q := fun _ => False) rfl).elim) ?_
  refine nM ?_
  refine nN ?_
  refine nG V.gu ?_
  refine nR (fun y FF hA => aA V.fW rfl aB rfl) ?_
  refine aU (.bool true) _ _ (fun y => rfl) rfl (fun y => rfl) (fun y FF hA => (cE.fact (hA 4 (by decide)) (q := fun _ => False) rfl).elim) ?_
  refine aU (.bool true) _ _ (fun y => rfl) rfl (fun y => rfl) (fun y FF hA => (cE.fact (hA 4 (by decide)) (q := fun _ => False) rfl).elim) ?_
  refine nM ?_
  refine nN ?_
  refine nG V.gu ?_
  refine nR (fun y FF hA => aA V.fW rfl aB rfl) ?_
  refine aU (.bool true) _ _ (fun y => rfl) rfl (fun y => rfl) (fun y FF hA => (cE.fact (hA 4 (by decide)) (q := fun _ => False) rfl).elim) ?_
  refine aU (.bool true) _ _ (fun y => rfl) rfl (fun y => rfl) (fun y FF hA => (cE.fact (hA 4 (by decide)) (q := fun _ => False) rfl).elim) ?_
  refine aU (.bool true) _ _ (fun y => rfl) rfl (fun y => rfl) (fun y FF hA => (cE.fact (hA 4 (by decide)) (q := fun _ => False) rfl).elim) ?_
  refine aU (.bool true) _ _ (fun y => rfl) rfl (fun y => rfl) (fun y FF hA => (cE.fact (hA 4 (by decide)) (q := fun _ => False) rfl).elim) ?_
  refine aU (.bool true) _ _ (fun y => rfl) rfl (fun y => rfl) (fun y FF hA => (cE.fact (hA 4 (by decide)) (q := fun _ => False) rfl).elim) ?_
  refine cG ?_
  intro y hA
  exact (cE.fact (hA 4 (by exact Nat.le_of_ble_eq_true rfl)) (q := fun _ => False) rfl).elim
 ·refine rT cg 1 rfl ?_
  refine wN [pz 0 [] [0], pz 1 [0] [], pz 3 [1] [], pz 7 [2] [], pz 15 [3] [], pz 31 [4] [], pz 0 [] [0], pz 64 [6] [], pz 192 [7] [], pz 448 [8] [], pz 991 [9] [], pz 2015 [10] [], pz 0 [] [0], pz 4096 [12] [], pz 12288 [13] [], pz 28672 [14] [], pz 63455 [15] [], pz 128991 [16] [], pz 129023 [5] [], pz 393215 [11] [], pz 1048575 [17] []] [⟨fun y => ai b 223 [.pointer (some ⟨bl, 0, none⟩), .int .i64 sz, .int .i64 mo, .slice po no co, .bool s.ended, .int .i64 0, .int .i64 s.kind, .int .i64 (s.left : Int), .bool s.last, li, di, .int .i64 (s.ax : Int), .int .i64 (s.bA : Int)], none, none, [3, 9, 10, 15]⟩, ⟨fun y => LW bl B a [] 0, none, some 4, []⟩, ⟨fun y => LW bl B (a + 5) [] 0, some 4, none, [10]⟩] F V.mixed ?_
  refine nM ?_
  refine nN ?_
  refine nG V.gu ?_
  refine nR (fun y FF hA => aA V.fW rfl aB rfl) ?_
  refine nE (fun y FF hA => aV (Post := [LW bl B (a + 5) [] 0]) (eN bl B a [] 0 5 hl hB (by omega) (by omega)) V.eg rfl (aq .nil) (fun v G h => by rcases h with ⟨rfl, rfl⟩; exact ⟨rfl, .refl _⟩)) ?_
  refine nV (fun y hA L => eA rfl rfl wI) ?_
  refine nM ?_
  refine nN ?_
  refine nG V.gu ?_
  refine nR (fun y FF hA => aA V.fW rfl aB rfl) ?_
  refine aU (undef) _ _ (fun y => rfl) rfl (fun y => rfl) (fun y FF hA => eW (fw bl B (a + 5) [] 0 5 hl hB (by omega) (by omega) (by omega)) V.eg rfl (.cons aw .nil) (by rintro _ _ ⟨rfl, rfl⟩; exact ko (ab.tO (by omega)) PE.end_ (aM (.cons aw .nil) (by exact zl (M := FF) (F := F)) (fun w0 h hh => bP hh)))) ?_
  refine aU (.bool true) _ _ (fun y => rfl) rfl (fun y => rfl) (fun y FF hA => (cE.fact (hA 10 (by decide)) (q := fun _ => False) rfl).elim) ?_
  refine nM ?_
  refine nN ?_
  refine nG V.gu ?_
  refine nR (fun y FF hA => aA V.fW rfl aB rfl) ?_
  refine aU (.bool true) _ _ (fun y => rfl) rfl (fun y => rfl) (fun y FF hA => (cE.fact (hA 10 (by decide)) (q := fun _ => False) rfl).elim) ?_
  refine aU (.bool true) _ _ (fun y => rfl) rfl (fun y => rfl) (fun y FF hA => (cE.fact (hA 10 (by decide)) (q := fun _ => False) rfl).elim) ?_
  refine aU (.bool true) _ _ (fun y => rfl) rfl (fun y => rfl) (fun y FF hA => (cE.fact (hA 10 (by decide)) (q := fun _ => False) rfl).elim) ?_
  refine aU (.bool true) _ _ (fun y => rfl) rfl (fun y => rfl) (fun y FF hA => (cE.fact (hA 10 (by decide)) (q := fun _ => False) rfl).elim) ?_
  refine aU (.bool true) _ _ (fun y => rfl) rfl (fun y => rfl) (fun y FF hA => (cE.fact (hA 10 (by decide)) (q := fun _ => False) rfl).elim) ?_
  refine cG ?_
  intro y hA
  exact (cE.fact (hA 10 (by exact Nat.le_of_ble_eq_true rfl)) (q := fun _ => False) rfl).elim
 ·refine rT cg 1 rfl ?_
  refine wN [pz 0 [] [0], pz 1 [0] [], pz 3 [1] [], pz 7 [2] [], pz 15 [3] [], pz 31 [4] [], pz 0 [] [0], pz 64 [6] [], pz 192 [7] [], pz 448 [8] [], pz 991 [9] [], pz 2015 [10] [], pz 0 [] [0], pz 4096 [12] [], pz 12288 [13] [], pz 28672 [14] [], pz 63455 [15] [], pz 128991 [16] [], pz 129023 [5] [], pz 393215 [11] [], pz 1048575 [17] []] [⟨fun y => ai b 223 [.pointer (some ⟨bl, 0, none⟩), .int .i64 sz, .int .i64 mo, .slice po no co, .bool s.ended, .int .i64 0, .int .i64 s.kind, .int .i64 (s.left : Int), .bool s.last, li, di, .int .i64 (s.ax : Int), .int .i64 (s.bA : Int)], none, none, [3, 9, 15, 16]⟩, ⟨fun y => LW bl B a [] 0, none, some 4, []⟩, ⟨fun y => LW bl B (a + 5) [] 0, some 4, some 10, []⟩, ⟨fun y => LW bl B (a + 10) [] 0, some 10, none, [16]⟩] F V.mixed ?_
  refine nM ?_
  refine nN ?_
  refine nG V.gu ?_
  refine nR (fun y FF hA => aA V.fW rfl aB rfl) ?_
  refine nE (fun y FF hA => aV (Post := [LW bl B (a + 5) [] 0]) (eN bl B a [] 0 5 hl hB (by omega) (by omega)) V.eg rfl (aq .nil) (fun v G h => by rcases h with ⟨rfl, rfl⟩; exact ⟨rfl, .refl _⟩)) ?_
  refine nV (fun y hA L => eA rfl rfl wI) ?_
  refine nM ?_
  refine nN ?_
  refine nG V.gu ?_
  refine nR (fun y FF hA => aA V.fW rfl aB rfl) ?_
  refine nE (fun y FF hA => aV (Post := [LW bl B (a + 10) [] 0]) (eN bl B (a + 5) [] 0 5 hl hB (by omega) (by omega)) V.eg rfl (aq .nil) (fun v G h => by rcases h with ⟨rfl, rfl⟩; exact ⟨rfl, .refl _⟩)) ?_
  refine nV (fun y hA L => eA rfl rfl wI) ?_
  refine nM ?_
  refine nN ?_
  refine nG V.gu ?_
  refine nR (fun y FF hA => aA V.fW rfl aB rfl) ?_
  refine aU (undef) _ _ (fun y => rfl) rfl (fun y => rfl) (fun y FF hA => eW (fw bl B (a + 10) [] 0 4 hl hB (by omega) (by omega) (by omega)) V.eg rfl (.cons aw .nil) (by rintro _ _ ⟨rfl, rfl⟩; exact ko (ab.tO (by omega)) PE.end_ (aM (.cons aw .nil) (by exact zl (M := FF) (F := F)) (fun w0 h hh => bP hh)))) ?_
  refine aU (.bool true) _ _ (fun y => rfl) rfl (fun y => rfl) (fun y FF hA => (cE.fact (hA 16 (by decide)) (q := fun _ => False) rfl).elim) ?_
  refine aU (.bool true) _ _ (fun y => rfl) rfl (fun y => rfl) (fun y FF hA => (cE.fact (hA 16 (by decide)) (q := fun _ => False) rfl).elim) ?_
  refine aU (.bool true) _ _ (fun y => rfl) rfl (fun y => rfl) (fun y FF hA => (cE.fact (hA 16 (by decide)) (q := fun _ => False) rfl).elim) ?_
  refine aU (.bool true) _ _ (fun y => rfl) rfl (fun y => rfl) (fun y FF hA => (cE.fact (hA 16 (by decide)) (q := fun _ => False) rfl).elim) ?_
  refine cG ?_
  intro y hA
  exact (cE.fact (hA 16 (by exact Nat.le_of_ble_eq_true rfl)) (q := fun _ => False) rfl).elim
 ·refine rT cg 1 rfl ?_
  refine wN [pz 0 [] [0], pz 1 [0] [], pz 3 [1] [], pz 7 [2] [], pz 15 [3] [], pz 31 [4] [], pz 0 [] [0], pz 64 [6] [], pz 192 [7] [], pz 448 [8] [], pz 991 [9] [], pz 2015 [10] [], pz 0 [] [0], pz 4096 [12] [], pz 12288 [13] [], pz 28672 [14] [], pz 63455 [15] [], pz 128991 [16] [], pz 129023 [5] [], pz 393215 [11] [], pz 1048575 [17] []] [⟨fun y => ai b 223 [.pointer (some ⟨bl, 0, none⟩), .int .i64 sz, .int .i64 mo, .slice po no co, .bool s.ended, .int .i64 0, .int .i64 s.kind, .int .i64 (s.left : Int), .bool s.last, li, di, .int .i64 (s.ax : Int), .int .i64 (s.bA : Int)], none, none, [3, 9, 15]⟩, ⟨fun y => LW bl B a [] 0, none, some 4, []⟩, ⟨fun y => LW bl B (a + 5) [] 0, some 4, some 10, []⟩, ⟨fun y => LW bl B (a + 10) [] 0, some 10, some 16, []⟩, ⟨fun y => LW bl B (a + 14) [] 0, some 16, none, []⟩] F V.mixed ?_
  refine nM ?_
  refine nN ?_
  refine nG V.gu ?_
  refine nR (fun y FF hA => aA V.fW rfl aB rfl) ?_
  refine nE (fun y FF hA => aV (Post := [LW bl B (a + 5) [] 0]) (eN bl B a [] 0 5 hl hB (by omega) (by omega)) V.eg rfl (aq .nil) (fun v G h => by rcases h with ⟨rfl, rfl⟩; exact ⟨rfl, .refl _⟩)) ?_
  refine nV (fun y hA L => eA rfl rfl wI) ?_
  refine nM ?_
  refine nN ?_
  refine nG V.gu ?_
  refine nR (fun y FF hA => aA V.fW rfl aB rfl) ?_
  refine nE (fun y FF hA => aV (Post := [LW bl B (a + 10) [] 0]) (eN bl B (a + 5) [] 0 5 hl hB (by omega) (by omega)) V.eg rfl (aq .nil) (fun v G h => by rcases h with ⟨rfl, rfl⟩; exact ⟨rfl, .refl _⟩)) ?_
  refine nV (fun y hA L => eA rfl rfl wI) ?_
  refine nM ?_
  refine nN ?_
  refine nG V.gu ?_
  refine nR (fun y FF hA => aA V.fW rfl aB rfl) ?_
  refine nE (fun y FF hA => aV (Post := [LW bl B (a + 14) [] 0]) (eN bl B (a + 10) [] 0 4 hl hB (by omega) (by omega)) V.eg rfl (aq .nil) (fun v G h => by rcases h with ⟨rfl, rfl⟩; exact ⟨rfl, .refl _⟩)) ?_
  refine nV (fun y hA L => eA rfl rfl wI) ?_
  iterate 3 refine nA ?_
  refine cG ?_
  intro y hA
  clear hA
  refine bj ?_
  refine bE _ (.cons (d := 0) rfl (.cons (d := 2) rfl (.cons (d := 3) rfl (.cons (d := 4) rfl (.nil _))))) ?_
  refine bo (M := ai b 223 [.pointer (some ⟨bl, 0, none⟩), .int .i64 sz, .int .i64 mo, .slice po no co, .bool s.ended, .int .i64 0, .int .i64 s.kind, .int .i64 (s.left : Int), .bool s.last, li, di, .int .i64 (s.ax : Int), .int .i64 (s.bA : Int)] :: LW bl B (a + 14) [] 0 :: F) (fun _ _ h => h) ?_
  rcases (ab.RH (ab.hL B a ≤ 286) (ab.hD B a ≤ 30)) with ⟨hq1, hq2⟩ | ⟨hq1, hq2⟩ | hq1
  ·refine rC cg 1 rfl ?_
   rw [he1, he2, he3]
   refine rC cg 2 rfl ?_
   refine oV (cQ (ga rfl rfl) (by omega)) ?_
   refine rO cg 2 rfl ?_
   refine dg rfl ?_
   refine oV (cQ (ga rfl rfl) (by omega)) ?_
   refine oV (nF rfl rfl) ?_
   refine aj (nC 4) V.kJ  rfl .nil rfl ?_
   rintro _ _ ⟨rfl, rfl⟩
   refine rO cg 4 rfl ?_
   refine aj (By 0 19 (by omega)) V.Cj  rfl .nil rfl ?_
   rintro _ _ ⟨p37, c37, rfl, rfl⟩
   refine rO cg 6 rfl ?_
   refine aj (Ly) V.W0  rfl .nil rfl ?_
   rintro _ _ ⟨p38, rfl, rfl⟩
   refine oV (fY rfl) ?_
   refine oV (iI (ab.hC B a) _ V.cV rfl ⟨_, rfl⟩ rfl (by omega) (by omega)) ?_
   refine rO cg 5 rfl ?_
   rw [← ab.Ho B (a + 14)]
   rw [show LW bl B (a + 14) [] 0 = LW bl B (a + 14 + 3 * 0) [] 0 from rfl]
   refine cB (fun (k : Nat) => [(0, .pointer (some ⟨b, 0, none⟩)), (2, .int .i64 (ab.hL B a : Int)), (3, .int .i64 (ab.hD B a : Int)), (5, .slice p37 19 c37), (40, .slice p38 (ab.hC B a) 19), (41, .int .i64 ((ab.hC B a) : Int)), (42, .int .i64 (k : Int))]) (fun (k : Nat) => Row I3 p37 19 c37 (ab.gH B (a + 14) k) :: Row I3 p38 19 19 ab.ly :: ai b 223 [.pointer (some ⟨bl, 0, none⟩), .int .i64 sz, .int .i64 mo, .slice po no co, .bool s.ended, .int .i64 0, .int .i64 s.kind, .int .i64 (s.left : Int), .bool s.last, li, di, .int .i64 (s.ax : Int), .int .i64 (s.bA : Int)] :: LW bl B (a + 14 + 3 * k) [] 0 :: F) (fun (k : Nat) => k ≤ ab.hC B a ∧ a + 14 + 3 * k ≤ 8 * B.length) (fun (k : Nat) => ab.hC B a - k) (i1 (0) ?_ (gI (bB ln)) (sub (.cons aw (fp .nil)) ak)) ?_
   ·exact ⟨Nat.zero_le _, by omega⟩
   intro k
   rintro ⟨hk, hk2⟩
   refine rL cg 6 rfl ?_
   refine aC rfl (fun h43 => ?_) (fun h43 => ?_)
   ·refine rC cg 5 rfl ?_
    have hoo : 0 ≤ I3.g ab.ly (k : Int) ∧ I3.g ab.ly (k : Int) < 19 := ab.Kp (k := k) (by omega)
    refine dR ?_
    refine oV (zV (c := (I3)) V.cV rfl rfl (by exact (own dm).take _ (by omega)) (by omega) (by omega)) ?_
    refine oV (xL V.s3 (own dm)) ?_
    refine rO cg 3 rfl ?_
    rcases (Nat.lt_or_ge (8 * B.length) ((a + 14 + 3 * k) + 3)) with hx | hx
    ·refine rC cg 6 rfl ?_
     refine oV (aA V.fW rfl dW rfl) ?_
     refine da (fw bl B (a + 14 + 3 * k) [] 0 3 hl hB (by omega) (by omega) (by omega)) V.eg rfl (.cons c9 .nil) ?_
     rintro _ _ ⟨rfl, rfl⟩
     refine (eB (cK (cK (eB (cK ?_)))))
     exact dk (ab.D5 h14 ⟨hq1, hq2⟩ (by omega)) PE.end_ (aM (.cons c9 .nil) mw (fun w0 h hh => bP hh))
    ·refine rC cg 6 rfl ?_
     refine oV (aA V.fW rfl dW rfl) ?_
     refine aj (eN bl B (a + 14 + 3 * k) [] 0 3 hl hB (by omega) (by omega)) V.eg  rfl (.cons c9 .nil) rfl ?_
     rintro _ _ ⟨rfl, rfl⟩
     refine oV (xI V.cV (own dm)) ?_
     refine cy (lQ (c := (I3)) (_) V.s3 rfl rfl rfl (by exact sR) (by omega) (by omega) rfl rfl) ?_
     refine gV cg 7 rfl (by omega) ?_
     rw [show (ab.gH B (a + 14) k).set (I3.g ab.ly (k : Int)).toNat (ag.aK B (a + 14 + 3 * k) 3) = ab.gH B (a + 14) (k + 1) from (ab.F4 B (a + 14) k).symm]
     rw [show a + 14 + 3 * k + 3 = a + 14 + 3 * (k + 1) from by omega]
     refine j1 (k + 1) ?_ (gI (bB ln)) (sub (.cons aw (.cons aw (.cons aw (aq .nil)))) ak)
     exact ⟨⟨by omega, by omega⟩, by omega⟩
   ·refine rC cg 5 rfl ?_
    rcases (Classical.em (ae.a7 (ab.bR B a) = 0)) with hy | hy
    ·refine rC cg 1 rfl ?_
     have hkC : k = ab.hC B a := by omega
     rw [show ab.gH B (a + 14) k = ab.bR B a from by rw [hkC]; exact (ab.xu B a).symm, show a + 14 + 3 * k = ab.dj B a from by omega]
     have hta : ab.dj B a ≤ 8 * B.length := by omega
     refine rC cg 2 rfl ?_
     refine aj (kP p37 19 c37 (ab.bR B a) (Row I3 p37 19 c37 (ab.bR B a)) (ab.gS B a).symm (fun _ _ hh => sP (ab.gS B a).symm hh) hy) V.mZ  rfl (aq .nil) rfl ?_
     rintro _ _ ⟨bc, rfl, rfl⟩
     refine rO cg 10 rfl ?_
     refine iT (Row I3 none 0 0 []) (Row.nil _ _ _) ?_
     refine uv (fun (l : List Int) (f : Nat) (x : Nat) (pr : Option Addr) (cr : Nat) => [(0, .pointer (some ⟨b, 0, none⟩)), (2, .int .i64 (ab.hL B a : Int)), (3, .int .i64 (ab.hD B a : Int)), (8, .pointer (some ⟨bc, 0, none⟩)), (9, .slice pr l.length cr)]) (fun (l : List Int) (f : Nat) (x : Nat) (pr : Option Addr) (cr : Nat) => Row I3 pr l.length cr l :: HC bc (ab.bR B a) :: ai b 223 [.pointer (some ⟨bl, 0, none⟩), .int .i64 sz, .int .i64 mo, .slice po no co, .bool s.ended, .int .i64 0, .int .i64 s.kind, .int .i64 (s.left : Int), .bool s.last, li, di, .int .i64 (s.ax : Int), .int .i64 (s.bA : Int)] :: LW bl B x [] 0 :: F) (fun (l : List Int) (f : Nat) (x : Nat) (pr : Option Addr) (cr : Nat) => ab.eE B (ab.bR B a) (ab.cx B a) (ab.cx B a) [] (ab.dj B a) = ab.eE B (ab.bR B a) (ab.cx B a) f l x ∧ (ab.cx B a) ≤ f + l.length ∧ l.length ≤ (ab.cx B a) ∧ x ≤ 8 * B.length) (fun (l : List Int) (f : Nat) (x : Nat) (pr : Option Addr) (cr : Nat) => (ab.cx B a) - l.length) (i5 ([]) ((ab.cx B a)) ((ab.dj B a)) (none) (0) ?_ (bB ln) (sub (aO (.cons bg (.cons bg .nil))) fP)) ?_
     ·exact ⟨rfl, Nat.le_add_right _ _, Nat.zero_le _, hta⟩
     intro l f x pr cr
     rintro ⟨hg, hf, hlt, hx⟩
     refine VI cg 11 rfl (by omega) ?_
     refine aC rfl (fun h62 => ?_) (fun h62 => ?_)
     ·refine rC cg 3 rfl ?_
      rcases (ab.Cz B (ab.bR B a) l x) with ⟨e, hs⟩ | ⟨sy, x2, e, hs, hr⟩ | ⟨sy, x2, xx, nn, x3, hs, hr⟩
      ·refine rC cg 7 rfl ?_
       refine oV (aA V.fW rfl dW rfl) ?_
       refine da ((mS bc (ab.bR B a) bl B x [] 0 hy hl hB hx).err hs) V.qu rfl (.cons aw (.cons bg .nil)) ?_
       rintro _ _ ⟨hp, rfl⟩
       refine (cK (eB (cK (eB (cK ?_)))))
       exact dk (ab.tn h14 ⟨hq1, hq2⟩ hta hy (hg.trans (ab.oL (by omega) hf (ab.r5 hs)))) hp (aM (.cons aw .nil) bp (fun w0 h hh => bP hh))
      ·refine rC cg 1 rfl ?_
       have hsz := ab.pq hy (by rw [ab.gS]; omega) hs
       rw [ab.gS] at hsz
       have hsy : 0 ≤ sy ∧ sy ≤ 18 := by omega
       have hx2 : x2 ≤ 8 * B.length := by omega
       refine rC cg 6 rfl ?_
       refine oV (aA V.fW rfl dW rfl) ?_
       refine aj ((mS bc (ab.bR B a) bl B x [] 0 hy hl hB hx).ok hs) V.qu  rfl (.cons aw (.cons bg .nil)) rfl ?_
       rintro _ _ ⟨rfl, rfl⟩
       refine oV (fY rfl) ?_
       refine da ((I5 b bl sz mo po no co li di s B x2 sy pr cr l hsy hl hB hx2 (by omega)).err hr) V.No rfl (.cons c9 (.cons aw (.cons aw .nil))) ?_
       rintro _ _ ⟨hp, rfl⟩
       refine (cK (eB (cK (eB (cK ?_)))))
       exact dk (ab.tn h14 ⟨hq1, hq2⟩ hta hy (hg.trans (ab.oL (by omega) hf (ab.rU hs hr)))) hp (sub (aq .nil) bp)
      ·refine rC cg 1 rfl ?_
       have hsz := ab.pq hy (by rw [ab.gS]; omega) hs
       rw [ab.gS] at hsz
       have hsy : 0 ≤ sy ∧ sy ≤ 18 := by omega
       have hx2 : x2 ≤ 8 * B.length := by omega
       have hrg := ab.xD hx2 hr
       refine rC cg 6 rfl ?_
       refine oV (aA V.fW rfl dW rfl) ?_
       refine aj ((mS bc (ab.bR B a) bl B x [] 0 hy hl hB hx).ok hs) V.qu  rfl (.cons aw (.cons bg .nil)) rfl ?_
       rintro _ _ ⟨rfl, rfl⟩
       refine oV (fY rfl) ?_
       refine aj ((I5 b bl sz mo po no co li di s B x2 sy pr cr l hsy hl hB hx2 (by omega)).ok hr) V.No  rfl (.cons c9 (.cons aw (.cons aw .nil))) rfl ?_
       rintro _ _ ⟨rfl, rfl⟩
       refine rO cg 12 rfl ?_
       refine aj (FJ xx nn (by omega)) V.Cj  rfl .nil rfl ?_
       rintro _ _ ⟨p78, c78, rfl, rfl⟩
       refine eh (c := (I3)) V.cV V.z3 rfl rfl rfl rfl c9 (own aB) (by omega) rfl ?_
       intro p79 c79
       refine rO cg 3 rfl ?_
       rcases (Nat.lt_or_ge (ab.cx B a) (l.length + nn.toNat)) with hbg | hbg
       ·refine jW cg 6 rfl (by omega) ?_
        refine oV (bV (ga rfl rfl) (by omega)) ?_
        refine da (kN 4) V.kJ rfl .nil ?_
        rintro _ _ ⟨rfl, rfl⟩
        refine (eB (cK (eB (cK ?_))))
        exact dk (ab.tn h14 ⟨hq1, hq2⟩ hta hy (hg.trans (ab.yN (by omega) hf (ab.l8 hs hr) (by rw [List.length_append, List.length_replicate]; omega)))) (PE.no (by decide)) (aM (.cons bg .nil) lA (fun w0 h hh => bP hh))
       ·refine jW cg 6 rfl (by omega) ?_
        refine oV (cQ (ga rfl rfl) (by omega)) ?_
        refine aj (nC 4) V.kJ  rfl .nil rfl ?_
        rintro _ _ ⟨rfl, rfl⟩
        refine rO cg 2 rfl ?_
        rw [show l.length + nn.toNat = (l ++ List.replicate nn.toNat xx).length from by rw [List.length_append, List.length_replicate]]
        have hll : (l ++ List.replicate nn.toNat xx).length = l.length + nn.toNat := by rw [List.length_append, List.length_replicate]
        refine j5 (l ++ List.replicate nn.toNat xx) (f - 1) (x3) (_) (_) ?_ (bB ln) (sub (aq (.cons c9 (.cons aw (.cons aw .nil)))) bp)
        exact ⟨⟨hg.trans (ab.vm (by omega) hf (ab.l8 hs hr) (by omega)), by omega, by omega, by omega⟩, by omega⟩
     ·refine rC cg 5 rfl ?_
      rcases (ab.RH (ae.a7 (l.take (ab.hL B a)) = 0) (ae.a7 (l.drop (ab.hL B a)) = 0)) with ⟨hc1, hc2⟩ | ⟨hc1, hc2⟩ | hc1
      ·refine rC cg 1 rfl ?_
       have hlt : l.length = ab.cx B a := by omega
       have hz := hg.trans (ab.mr (B := B) (c := ab.bR B a) (f := f) (a := x) (show ab.cx B a ≤ l.length by omega))
       refine wg (p := pr) (n := l.length) (cap := cr) (l := l) (c := I3) aB fun hcap => ?_
       refine jD [pz 0 [] [0], pz 0 [] [0], pz 0 [] [9], pz 0 [] [2], pz 12 [2, 3] [], pz 28 [4] [], pz 0 [] [9], pz 0 [] [2], pz 192 [6, 7] [], pz 508 [8] [], pz 1021 [0] [], pz 2045 [10] [], pz 4093 [11, 5] [], pz 8191 [1] [], pz 16383 [13] [], pz 32767 [14, 9] []] [⟨fun y => Row I3 pr l.length cr l, none, some 5, []⟩, ⟨fun y => HC bc (ab.bR B a), none, none, []⟩, ⟨fun y => ai b 223 [.pointer (some ⟨bl, 0, none⟩), .int .i64 sz, .int .i64 mo, .slice po no co, .bool s.ended, .int .i64 0, .int .i64 s.kind, .int .i64 (s.left : Int), .bool s.last, li, di, .int .i64 (s.ax : Int), .int .i64 (s.bA : Int)], none, some 12, []⟩, ⟨fun y => LW bl B x [] 0, none, none, []⟩, ⟨fun y => HC (fe (y 5)) (l.take (ab.hL B a)), some 5, none, []⟩, ⟨fun y => Row I3 pr l.length cr l, some 5, some 9, []⟩, ⟨fun y => HC (fe (y 9)) (l.drop (ab.hL B a)), some 9, none, []⟩, ⟨fun y => Row I3 pr l.length cr l, some 9, none, []⟩, ⟨fun y => ai b 223 [.pointer (some ⟨bl, 0, none⟩), .int .i64 sz, .int .i64 mo, .slice po no co, .bool s.ended, .int .i64 0, .int .i64 s.kind, .int .i64 (s.left : Int), .bool s.last, .pointer (some ⟨fe (y 5), 0, none⟩), di, .int .i64 (s.ax : Int), .int .i64 (s.bA : Int)], some 12, some 15, []⟩, ⟨fun y => ai b 223 [.pointer (some ⟨bl, 0, none⟩), .int .i64 sz, .int .i64 mo, .slice po no co, .bool s.ended, .int .i64 0, .int .i64 s.kind, .int .i64 (s.left : Int), .bool s.last, .pointer (some ⟨fe (y 5), 0, none⟩), .pointer (some ⟨fe (y 9), 0, none⟩), .int .i64 (s.ax : Int), .int .i64 (s.bA : Int)], some 15, none, []⟩] F V.mixed (by kernel_rfl) rfl (fun _ => .refl _) (aP _ (aP _ (aP _ (aP _ (cT _ rfl (by intro y y2 h; simp only [h 5 (.inl rfl)]) (cT _ rfl (by intro y y2 h; rfl) (cT _ rfl (by intro y y2 h; simp only [h 9 (.inl rfl)]) (cT _ rfl (by intro y y2 h; rfl) (cT _ rfl (by intro y y2 h; simp only [h 5 (.inr (by decide))]) (cT _ rfl (by intro y y2 h; simp only [h 5 (.inr (by decide)), h 9 (.inr (by decide))]) ft)))))))))) ?_
       iterate 4 refine nM ?_
       refine nV (fun y hA L => iI (ab.hL B a) _ V.cV rfl ⟨_, rfl⟩ rfl (by omega) (by omega)) ?_
       refine fc (fun y v => .pointer (some ⟨fe v, 0, none⟩)) (fun y v => True) _ _ (fun y v => [HC (fe v) (l.take (ab.hL B a)), Row I3 pr l.length cr l]) _ (fun y => rfl) (fun y => rfl) (fun y => rfl) (fun y => rfl) (fun y FF hA => n7 (A := fun z => HC z (l.take (ab.hL B a))) (Post := [Row I3 pr l.length cr l]) (kP pr (ab.hL B a) cr (l.take (ab.hL B a)) (Row I3 pr l.length cr l) (by (rw [List.length_take]; omega)) (fun _ _ hh => oD rfl (by omega) hh) hc1) V.mZ rfl (aq .nil)) (by intros; rfl) (by intros; rfl) (by intros; rfl) (by intro y y2 h; simp only [h 5 (.inl rfl)]) (by intro y y2 h; rfl) ?_
       iterate 2 refine nM ?_
       refine nV (fun y hA L => eb (ab.hL B a) _ _ V.cV rfl ⟨_, rfl⟩ ⟨rfl, rfl⟩ rfl (by omega) (by omega) (by omega)) ?_
       refine fc (fun y v => .pointer (some ⟨fe v, 0, none⟩)) (fun y v => True) _ _ (fun y v => [HC (fe v) (l.drop (ab.hL B a)), Row I3 pr l.length cr l]) _ (fun y => rfl) (fun y => rfl) (fun y => rfl) (fun y => rfl) (fun y FF hA => n7 (A := fun z => HC z (l.drop (ab.hL B a))) (Post := [Row I3 pr l.length cr l]) (kP (dq pr (ab.hL B a) cr 1) (l.length - (ab.hL B a)) (cr - (ab.hL B a)) (l.drop (ab.hL B a)) (Row I3 pr l.length cr l) (by rw [List.length_drop]) (fun _ _ hh => wO rfl (by omega) hcap hh) hc2) V.mZ rfl (aq .nil)) (by intros; rfl) (by intros; rfl) (by intros; rfl) (by intro y y2 h; simp only [h 9 (.inl rfl)]) (by intro y y2 h; rfl) ?_
       refine nN ?_
       refine nG V.xe ?_
       refine nE (fun y FF hA => dD (dK V.yx rfl rfl rfl (by exact fI) (by exact Nat.le_of_ble_eq_true rfl) rfl) ⟨rfl, .refl _⟩) ?_
       refine nN ?_
       refine nG V.uP ?_
       refine nE (fun y FF hA => dD (dK V.yx rfl rfl rfl (by exact fI) (by exact Nat.le_of_ble_eq_true rfl) rfl) ⟨rfl, .refl _⟩) ?_
       refine cG ?_
       intro y hA
       clear hA
       refine bj ?_
       refine bE _ (.cons (d := 9) rfl (.nil _)) ?_
       refine bo (M := HC bc (ab.bR B a) :: LW bl B x [] 0 :: HC (fe (y 5)) (l.take (ab.hL B a)) :: HC (fe (y 9)) (l.drop (ab.hL B a)) :: Row I3 pr l.length cr l :: ai b 223 [.pointer (some ⟨bl, 0, none⟩), .int .i64 sz, .int .i64 mo, .slice po no co, .bool s.ended, .int .i64 0, .int .i64 s.kind, .int .i64 (s.left : Int), .bool s.last, .pointer (some ⟨fe (y 5), 0, none⟩), .pointer (some ⟨fe (y 9), 0, none⟩), .int .i64 (s.ax : Int), .int .i64 (s.bA : Int)] :: F) (fun _ _ h => h) ?_
       generalize (fe (y 5)) = q92
       generalize (fe (y 9)) = q96
       rcases (Classical.em (l.getD 256 0 = 0)) with hend | hend
       ·have hnn := ab.zI hc1 256
        rw [ab.getD_take (show 256 < ab.hL B a by omega)] at hnn
        refine rC cg 2 rfl ?_
        refine oV (xI V.cV (own jR)) ?_
        refine oV (xL V.s3 (own jR)) ?_
        refine oV (bV (dz rfl rfl) (by rw [show I3.g l 256 = l.getD 256 0 from rfl]; omega)) ?_
        refine da (kN 4) V.kJ rfl .nil ?_
        rintro _ _ ⟨rfl, rfl⟩
        skip
        exact dk (ab.te h14 ⟨hq1, hq2⟩ hta hy hz (.inr (.inr hend))) (PE.no (by decide)) (aM (.cons jM .nil) IE (fun w0 h hh => bP hh))
       ·have hnn := ab.zI hc1 256
        rw [ab.getD_take (show 256 < ab.hL B a by omega)] at hnn
        refine rC cg 2 rfl ?_
        refine oV (xI V.cV (own jR)) ?_
        refine oV (xL V.s3 (own jR)) ?_
        refine oV (cQ (dz rfl rfl) (by rw [show I3.g l 256 = l.getD 256 0 from rfl]; omega)) ?_
        refine aj (nC 4) V.kJ  rfl .nil rfl ?_
        rintro _ _ ⟨rfl, rfl⟩
        refine dh ?_
        exact gv (ab.Dh h14 ⟨hq1, hq2⟩ hta hy hz hc1 hc2 hend) eK ⟨_, _, rfl, rfl⟩ (sub (.cons jM (.cons aw (.cons aw (.cons aw .nil)))) fP)
      ·refine rC cg 1 rfl ?_
       have hlt : l.length = ab.cx B a := by omega
       have hz := hg.trans (ab.mr (B := B) (c := ab.bR B a) (f := f) (a := x) (show ab.cx B a ≤ l.length by omega))
       refine wg (p := pr) (n := l.length) (cap := cr) (l := l) (c := I3) aB fun hcap => ?_
       refine jD [pz 0 [] [0], pz 0 [] [0], pz 0 [] [9], pz 0 [] [2], pz 12 [2, 3] [], pz 28 [4] [], pz 0 [] [9], pz 0 [] [2], pz 192 [6, 7] [], pz 508 [8] [], pz 1021 [0] [], pz 2045 [10] [], pz 4093 [11, 5] [], pz 8191 [1] [], pz 16383 [13] [], pz 32767 [14, 9] []] [⟨fun y => Row I3 pr l.length cr l, none, some 5, []⟩, ⟨fun y => HC bc (ab.bR B a), none, none, []⟩, ⟨fun y => ai b 223 [.pointer (some ⟨bl, 0, none⟩), .int .i64 sz, .int .i64 mo, .slice po no co, .bool s.ended, .int .i64 0, .int .i64 s.kind, .int .i64 (s.left : Int), .bool s.last, li, di, .int .i64 (s.ax : Int), .int .i64 (s.bA : Int)], none, none, [9]⟩, ⟨fun y => LW bl B x [] 0, none, none, []⟩, ⟨fun y => HC (fe (y 5)) (l.take (ab.hL B a)), some 5, none, []⟩, ⟨fun y => Row I3 pr l.length cr l, some 5, none, [9]⟩] F V.mixed (by kernel_rfl) rfl (fun _ => .refl _) (aP _ (aP _ (aP _ (aP _ (cT _ rfl (by intro y y2 h; simp only [h 5 (.inl rfl)]) (cT _ rfl (by intro y y2 h; rfl) ft)))))) ?_
       iterate 4 refine nM ?_
       refine nV (fun y hA L => iI (ab.hL B a) _ V.cV rfl ⟨_, rfl⟩ rfl (by omega) (by omega)) ?_
       refine fc (fun y v => .pointer (some ⟨fe v, 0, none⟩)) (fun y v => True) _ _ (fun y v => [HC (fe v) (l.take (ab.hL B a)), Row I3 pr l.length cr l]) _ (fun y => rfl) (fun y => rfl) (fun y => rfl) (fun y => rfl) (fun y FF hA => n7 (A := fun z => HC z (l.take (ab.hL B a))) (Post := [Row I3 pr l.length cr l]) (kP pr (ab.hL B a) cr (l.take (ab.hL B a)) (Row I3 pr l.length cr l) (by (rw [List.length_take]; omega)) (fun _ _ hh => oD rfl (by omega) hh) hc1) V.mZ rfl (aq .nil)) (by intros; rfl) (by intros; rfl) (by intros; rfl) (by intro y y2 h; simp only [h 5 (.inl rfl)]) (by intro y y2 h; rfl) ?_
       iterate 2 refine nM ?_
       refine nV (fun y hA L => eb (ab.hL B a) _ _ V.cV rfl ⟨_, rfl⟩ ⟨rfl, rfl⟩ rfl (by omega) (by omega) (by omega)) ?_
       refine aU (undef) _ _ (fun y => rfl) rfl (fun y => rfl) (fun y FF hA => eW (ux (dq pr (ab.hL B a) cr 1) (l.length - (ab.hL B a)) (cr - (ab.hL B a)) (l.drop (ab.hL B a)) (Row I3 pr l.length cr l) (by rw [List.length_drop]) (fun _ _ hh => wO rfl (by omega) hcap hh) hc2) V.mZ rfl (.cons aw .nil) (by rintro _ _ ⟨hp, rfl⟩; exact ko (ab.te h14 ⟨hq1, hq2⟩ hta hy hz (.inr (.inl hc2))) hp (aM (aq .nil) (by exact vo (M := FF) (F := F)) (fun w0 h hh => bP hh)))) ?_
       refine aU (.bool true) _ _ (fun y => rfl) rfl (fun y => rfl) (fun y FF hA => (cE.fact (hA 9 (by decide)) (q := fun _ => False) rfl).elim) ?_
       refine aU (.bool true) _ _ (fun y => rfl) rfl (fun y => rfl) (fun y FF hA => (cE.fact (hA 9 (by decide)) (q := fun _ => False) rfl).elim) ?_
       refine aU (.bool true) _ _ (fun y => rfl) rfl (fun y => rfl) (fun y FF hA => (cE.fact (hA 9 (by decide)) (q := fun _ => False) rfl).elim) ?_
       refine aU (.bool true) _ _ (fun y => rfl) rfl (fun y => rfl) (fun y FF hA => (cE.fact (hA 9 (by decide)) (q := fun _ => False) rfl).elim) ?_
       refine aU (.bool true) _ _ (fun y => rfl) rfl (fun y => rfl) (fun y FF hA => (cE.fact (hA 9 (by decide)) (q := fun _ => False) rfl).elim) ?_
       refine aU (.bool true) _ _ (fun y => rfl) rfl (fun y => rfl) (fun y FF hA => (cE.fact (hA 9 (by decide)) (q := fun _ => False) rfl).elim) ?_
       refine cG ?_
       intro y hA
       exact (cE.fact (hA 9 (by exact Nat.le_of_ble_eq_true rfl)) (q := fun _ => False) rfl).elim
      ·refine rC cg 1 rfl ?_
       have hlt : l.length = ab.cx B a := by omega
       have hz := hg.trans (ab.mr (B := B) (c := ab.bR B a) (f := f) (a := x) (show ab.cx B a ≤ l.length by omega))
       refine wg (p := pr) (n := l.length) (cap := cr) (l := l) (c := I3) aB fun hcap => ?_
       refine wN [pz 0 [] [0], pz 0 [] [0], pz 0 [] [9], pz 0 [] [2], pz 12 [2, 3] [], pz 28 [4] [], pz 0 [] [9], pz 0 [] [2], pz 192 [6, 7] [], pz 508 [8] [], pz 1021 [0] [], pz 2045 [10] [], pz 4093 [11, 5] [], pz 8191 [1] [], pz 16383 [13] [], pz 32767 [14, 9] []] [⟨fun y => Row I3 pr l.length cr l, none, none, [5]⟩, ⟨fun y => HC bc (ab.bR B a), none, none, []⟩, ⟨fun y => ai b 223 [.pointer (some ⟨bl, 0, none⟩), .int .i64 sz, .int .i64 mo, .slice po no co, .bool s.ended, .int .i64 0, .int .i64 s.kind, .int .i64 (s.left : Int), .bool s.last, li, di, .int .i64 (s.ax : Int), .int .i64 (s.bA : Int)], none, none, [5]⟩, ⟨fun y => LW bl B x [] 0, none, none, []⟩] F V.mixed ?_
       iterate 4 refine nM ?_
       refine nV (fun y hA L => iI (ab.hL B a) _ V.cV rfl ⟨_, rfl⟩ rfl (by omega) (by omega)) ?_
       refine aU (undef) _ _ (fun y => rfl) rfl (fun y => rfl) (fun y FF hA => eW (ux pr (ab.hL B a) cr (l.take (ab.hL B a)) (Row I3 pr l.length cr l) (by (rw [List.length_take]; omega)) (fun _ _ hh => oD rfl (by omega) hh) hc1) V.mZ rfl (aq .nil) (by rintro _ _ ⟨hp, rfl⟩; exact ko (ab.te h14 ⟨hq1, hq2⟩ hta hy hz (.inl hc1)) hp (aM (aq .nil) (by exact vo (M := FF) (F := F)) (fun w0 h hh => bP hh)))) ?_
       iterate 2 refine nM ?_
       refine nV (fun y hA L => eb (ab.hL B a) _ _ V.cV rfl ⟨_, rfl⟩ ⟨rfl, rfl⟩ rfl (by omega) (by omega) (by omega)) ?_
       refine aU (.bool true) _ _ (fun y => rfl) rfl (fun y => rfl) (fun y FF hA => (cE.fact (hA 5 (by decide)) (q := fun _ => False) rfl).elim) ?_
       refine aU (.bool true) _ _ (fun y => rfl) rfl (fun y => rfl) (fun y FF hA => (cE.fact (hA 5 (by decide)) (q := fun _ => False) rfl).elim) ?_
       refine aU (.bool true) _ _ (fun y => rfl) rfl (fun y => rfl) (fun y FF hA => (cE.fact (hA 5 (by decide)) (q := fun _ => False) rfl).elim) ?_
       refine aU (.bool true) _ _ (fun y => rfl) rfl (fun y => rfl) (fun y FF hA => (cE.fact (hA 5 (by decide)) (q := fun _ => False) rfl).elim) ?_
       refine aU (.bool true) _ _ (fun y => rfl) rfl (fun y => rfl) (fun y FF hA => (cE.fact (hA 5 (by decide)) (q := fun _ => False) rfl).elim) ?_
       refine aU (.bool true) _ _ (fun y => rfl) rfl (fun y => rfl) (fun y FF hA => (cE.fact (hA 5 (by decide)) (q := fun _ => False) rfl).elim) ?_
       refine aU (.bool true) _ _ (fun y => rfl) rfl (fun y => rfl) (fun y FF hA => (cE.fact (hA 5 (by decide)) (q := fun _ => False) rfl).elim) ?_
       refine cG ?_
       intro y hA
       exact (cE.fact (hA 5 (by exact Nat.le_of_ble_eq_true rfl)) (q := fun _ => False) rfl).elim
    ·refine rC cg 1 rfl ?_
     have hkC : k = ab.hC B a := by omega
     rw [show ab.gH B (a + 14) k = ab.bR B a from by rw [hkC]; exact (ab.xu B a).symm, show a + 14 + 3 * k = ab.dj B a from by omega]
     have hta : ab.dj B a ≤ 8 * B.length := by omega
     refine rC cg 2 rfl ?_
     refine da (ux p37 19 c37 (ab.bR B a) (Row I3 p37 19 c37 (ab.bR B a)) (ab.gS B a).symm (fun _ _ hh => sP (ab.gS B a).symm hh) hy) V.mZ rfl (aq .nil) ?_
     rintro _ _ ⟨hp, rfl⟩
     refine (cK ?_)
     exact dk (ab.CP h14 ⟨hq1, hq2⟩ hta hy) hp (aM (.cons aw .nil) fP (fun w0 h hh => bP hh))
  ·refine rC cg 1 rfl ?_
   rw [he1, he2, he3]
   refine rC cg 2 rfl ?_
   refine oV (cQ (ga rfl rfl) (by omega)) ?_
   refine rO cg 2 rfl ?_
   refine dg rfl ?_
   refine oV (bV (ga rfl rfl) (by omega)) ?_
   refine oV (nF rfl rfl) ?_
   refine da (kN 4) V.kJ rfl .nil ?_
   rintro _ _ ⟨rfl, rfl⟩
   refine (cK ?_)
   exact dk (ab.wG h14 (by omega)) (PE.no (by decide)) (aM (aq .nil) bp (fun w0 h hh => bP hh))
  ·refine rC cg 1 rfl ?_
   rw [he1, he2, he3]
   refine rC cg 2 rfl ?_
   refine oV (bV (ga rfl rfl) (by omega)) ?_
   refine rO cg 4 rfl ?_
   refine da (kN 4) V.kJ rfl .nil ?_
   rintro _ _ ⟨rfl, rfl⟩
   refine (cK ?_)
   exact dk (ab.wG h14 (by omega)) (PE.no (by decide)) (aM (aq .nil) bp (fun w0 h hh => bP hh))
end Go.Proofs.YtmaiakpjgomnpaaGreat
namespace Go.Sl
def CD (li di : Value) (s : ab.St) : ad := fun w0 h => s.kind ≤ 0 ∨ ∃ l d, li = .pointer (some ⟨l, 0, none⟩) ∧ di = .pointer (some ⟨d, 0, none⟩) ∧ bW w0 [HC l s.lits, HC d s.dG] h
structure Pv where
  li : Value
  di : Value
def MM (b bl : Nat) (sz mo : Int) (B : List Int) (s : ab.St) : ad := fun w0 h => ∃ i : Pv, True ∧ bW w0 [MS b bl sz mo i.li i.di s, LW bl B s.at_ [] 0, CD i.li i.di s] h
theorem vL {w0 : World} {Bs : List ad} {A : ad} {h : Hp} (hA : ∀ h, bW w0 Bs h → A w0 h) (hh : bW w0 Bs h) : bW w0 [A] h := ⟨h, fun _ => none, fun _ => .inr rfl, Hp.le_refl _, (fun _ _ e => by cases e), hA h hh, trivial⟩
theorem oH {w0 : World} {X : ad} {L L' : List ad} {h : Hp} (k : ∀ h, bW w0 L h → bW w0 L' h) (hh : bW w0 (X :: L) h) : bW w0 (X :: L') h := by
  obtain ⟨h1, h2, a, b, c, d, e⟩ := hh
  exact ⟨h1, h2, a, b, c, d, k h2 e⟩
theorem mH {b bl : Nat} {sz mo : Int} {B : List Int} {s : ab.St} {li di : Value} {w0 : World} {h : Hp} (hk : s.kind ≤ 0) (hh : bW w0 [MS b bl sz mo li di s, LW bl B s.at_ [] 0] h) : MM b bl sz mo B s w0 h :=
  ⟨⟨li, di⟩, trivial, oH (fun h hh => oH (fun h hh => vL (fun h _ => .inl hk) hh) hh) hh⟩
theorem lq {b bl l d : Nat} {sz mo : Int} {B : List Int} {s : ab.St} {w0 : World} {h : Hp} (hh : bW w0 [MS b bl sz mo (.pointer (some ⟨l, 0, none⟩)) (.pointer (some ⟨d, 0, none⟩)) s, LW bl B s.at_ [] 0, HC l s.lits, HC d s.dG] h) : MM b bl sz mo B s w0 h :=
  ⟨⟨_, _⟩, trivial, oH (fun h hh => oH (fun h hh => vL (fun h hh => .inr ⟨l, d, rfl, rfl, hh⟩) hh) hh) hh⟩
theorem fg {b bl : Nat} {sz mo : Int} {B : List Int} {s : ab.St} {li di : Value} {w0 : World} {h : Hp} (hh : bW w0 [MS b bl sz mo li di s, LW bl B s.at_ [] 0, CD li di s] h) : MM b bl sz mo B s w0 h := ⟨⟨li, di⟩, trivial, hh⟩
theorem zJ {li di : Value} {s : ab.St} {w0 : World} {h : Hp} (hk : 0 < s.kind) (hh : CD li di s w0 h) : ∃ i : Nat × Nat, (li = .pointer (some ⟨i.1, 0, none⟩) ∧ di = .pointer (some ⟨i.2, 0, none⟩)) ∧ bW w0 [HC i.1 s.lits, HC i.2 s.dG] h := by
  rcases hh with hh | ⟨l, d, h1, h2, h3⟩
  · exact absurd hk (by omega)
  · exact ⟨(l, d), ⟨h1, h2⟩, h3⟩
theorem az.fold {P : Program} {f : FuncId} {args : List Value} {A : ad} {Bs : List ad} {Post : Ending → List ad → Prop} (h : az P f args [A] Post) (hA : ∀ w0 h, bW w0 Bs h → A w0 h) : az P f args Bs Post := fun w0 F w hi => h w0 F w (hi.cls (hA w0))
end Go.Sl
