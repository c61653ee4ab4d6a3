/- Walks of functions that the law reaches, and what they lean on; no conditions. -/
import Derived.Test.YtmaiakpjgomnpaaGreatM3
import Derived.Test.YtmaiakpjgomnpaaGreatM2
import Derived.Test.YtmaiakpjgomnpaaGreatM1
import Derived.Test.YtmaiakpjgomnpaaGreatProg
import Derived.KernelRfl
set_option linter.unusedVariables false
set_option linter.unusedSimpArgs false
set_option maxRecDepth 100000
namespace Go.aa
open Go.af Go.ab
theorem oI : ∀ (f : Nat) {B : List Int}, B.length ≤ 65535 * (f + 1) → an B → ∀ X ∈ aH.ie f B, X.length ≤ 65535 ∧ an X
  | 0, B, h, hB, X, hX => by
    simp only [aH.ie, List.mem_singleton] at hX
    subst hX
    exact ⟨by omega, hB⟩
  | f + 1, B, h, hB, X, hX => by
    unfold aH.ie at hX
    split at hX
    · simp only [List.mem_singleton] at hX
      subst hX
      exact ⟨by omega, hB⟩
    · rcases List.mem_cons.1 hX with rfl | hX
      · exact ⟨by rw [List.length_take]; omega, fun x hx => hB x (List.mem_of_mem_take hx)⟩
      · exact oI f (by rw [List.length_drop]; omega) (fun x hx => hB x (List.mem_of_mem_drop hx)) X hX
theorem AT {B : List Int} (hl : B.length ≤ 4194304) (hB : an B) : an (aH.gI B) := rZ _ (oI 64 (by omega) hB)
theorem RT {B : List Int} {mo mo' : Int} {q : List Int × Int × Int} (hB : an B) (h : iR B mo q) (he : q.2.2 = 0) (hl : (q.1.length : Int) ≤ mo') : iR B mo' q := by
  rcases h with ⟨_, rfl⟩ | ⟨h0, o, ho, rfl⟩
  · exact absurd he (by decide)
  · cases o with
    | error e => exact absurd he (LC ho rfl)
    | ok p =>
      obtain ⟨x, n⟩ := p
      exact .inr ⟨by have : (x.length : Int) ≤ mo' := hl; omega, _, (zt hB ho (oa h0) x n rfl).2.1 hl, rfl⟩
def cP (B : List Int) : List Int := [120, 1] ++ aH.gI B ++ aG.jV B
theorem AB (B : List Int) : cP B = 120 :: 1 :: (aH.gI B ++ aG.jV B) := by simp [cP]
theorem mY {B : List Int} (h : B.length ≤ 4194304) : (cP B).length = B.length + 5 * ((B.length - 1) / 65535 + 1) + 6 := by
  simp only [cP, List.length_append, aH.ue h, aG.uL, List.length_cons, List.length_nil]; omega
theorem DL {B : List Int} {mo : Int} (hB : an B) (hl : B.length ≤ 4194304) (hm : (B.length : Int) ≤ mo) : aG.lR (cP B) mo (B, 0) := by
  have hs := aH.ue hl
  have hr := (aH.JK (t := aG.jV B) hl hB (aG.qO B)).1
  have hb : an (aH.gI B ++ aG.jV B) := aH.an.app (AT hl hB) (aG.qO B)
  rw [AB]
  refine .inr (.inr ⟨by simp [aG.uL], aG.Tr, _, RT hb hr rfl hm, ?_⟩)
  have e1 : (aH.gI B ++ aG.jV B).length - (aH.gI B).length = 4 := by rw [List.length_append, aG.uL]; omega
  have e2 : (aH.gI B ++ aG.jV B).drop (aH.gI B).length = aG.jV B := List.drop_left
  simp only [aG.fin, List.drop_succ_cons, List.drop_zero, Int.toNat_natCast, not_true_eq_false, if_false, e1, e2]
  rw [if_neg (by decide), if_neg (by decide), if_pos trivial]
theorem Fj {B : List Int} (hB : an B) (hl : B.length ≤ 4194304) : an (cP B) := by
  rw [AB]
  exact aG.kJ (by decide) (aG.kJ (by decide) (aH.an.app (AT hl hB) (aG.qO B)))
end Go.aa
namespace Go.aa
open Go.af
def two (l : List Int) : List Int := l.flatMap fun s => [s / 256, s % 256]
theorem zi (l : List Int) : (two l).length = 2 * l.length := by
  induction l with
  | nil => rfl
  | cons a l ih => simp only [two, List.flatMap_cons, List.length_append, List.length_cons, List.length_nil] at ih ⊢; omega
theorem zv : ∀ (l : List Int) (m : Nat), m < l.length → (two l).getD (2 * m) 0 = l.getD m 0 / 256 ∧ (two l).getD (2 * m + 1) 0 = l.getD m 0 % 256
  | [], m, h => by simp at h
  | a :: l, 0, _ => ⟨rfl, rfl⟩
  | a :: l, m + 1, h => by
    have ih := zv l m (by simpa using h)
    have e : two (a :: l) = (a / 256) :: (a % 256) :: two l := rfl
    rw [e, show 2 * (m + 1) = 2 * m + 1 + 1 by omega, show 2 * m + 1 + 1 + 1 = (2 * m + 1) + 1 + 1 by omega]
    simpa using ih
def tn (l : List Int) : Prop := ∀ x ∈ l, 0 ≤ x ∧ x < 65536
theorem tn.get {l : List Int} (h : tn l) (i : Nat) : 0 ≤ l.getD i 0 ∧ l.getD i 0 < 65536 := by
  rcases Nat.lt_or_ge i l.length with k | k
  · rw [List.getD_eq_getElem?_getD, List.getElem?_eq_getElem k]; exact h _ (List.getElem_mem k)
  · rw [List.getD_eq_getElem?_getD, List.getElem?_eq_none k]; decide
theorem uC {l : List Int} (h : tn l) : an (two l) := fun x hx => by
  obtain ⟨s, hs, hx⟩ := List.mem_flatMap.1 hx
  have := h s hs
  simp only [List.mem_cons, List.not_mem_nil, or_false] at hx
  rcases hx with rfl | rfl <;> omega
def hH (P : List Int) (W y : Nat) : List Int := two ((P.drop (4 * W * y)).take (4 * W))
def bX (P : List Int) (W : Nat) : Nat → List Int
  | 0 => []
  | y + 1 => bX P W y ++ (0 :: hH P W y)
theorem yx {P : List Int} {W H y : Nat} (hP : P.length = 4 * W * H) (hy : y < H) : (hH P W y).length = 8 * W := by
  have : 4 * W * (y + 1) ≤ 4 * W * H := Nat.mul_le_mul_left _ hy
  rw [Nat.mul_succ] at this
  rw [hH, zi, List.length_take, List.length_drop]; omega
theorem rq {P : List Int} {W H : Nat} (hP : P.length = 4 * W * H) : ∀ y, y ≤ H → (bX P W y).length = y * (1 + 8 * W)
  | 0, _ => by simp [bX]
  | y + 1, h => by
    have e : (y + 1) * (1 + 8 * W) = y * (1 + 8 * W) + (1 + 8 * W) := Nat.succ_mul _ _
    rw [bX, List.length_append, rq hP y (by omega), List.length_cons, yx hP (by omega), e]; omega
theorem r5 (P : List Int) (W y : Nat) : ∀ k, ∃ r, bX P W (y + k) = bX P W y ++ r
  | 0 => ⟨[], by simp⟩
  | k + 1 => by
    obtain ⟨r, h⟩ := r5 P W y k
    exact ⟨r ++ (0 :: hH P W (y + k)), by rw [← Nat.add_assoc, bX, h, List.append_assoc]⟩
theorem KS {P : List Int} {W H y : Nat} (hP : P.length = 4 * W * H) (hy : y < H) : (bX P W H).getD (y * (1 + 8 * W)) 0 = 0 ∧ ((bX P W H).drop (y * (1 + 8 * W) + 1)).take (8 * W) = hH P W y := by
  obtain ⟨r, h⟩ := r5 P W (y + 1) (H - (y + 1))
  rw [show y + 1 + (H - (y + 1)) = H by omega, bX, List.append_assoc, List.cons_append] at h
  have hl := rq hP y (by omega)
  have hr := yx hP hy
  rw [h]
  constructor
  · rw [List.getD_eq_getElem?_getD, List.getElem?_append_right (by omega), hl, Nat.sub_self]; rfl
  · rw [← List.drop_drop, ← hl, List.drop_left, List.drop_succ_cons, List.drop_zero, ← hr, List.take_left]
theorem nO {P : List Int} (W : Nat) (h : tn P) : ∀ y, an (bX P W y)
  | 0 => fun x hx => by cases hx
  | y + 1 => aH.an.app (nO W h y) (aG.kJ (by decide) (uC (fun x hx => h x (List.mem_of_mem_drop (List.mem_of_mem_take hx)))))
end Go.aa
namespace Go.aa
open Go.af
theorem TM {row above : List Int} {back : Nat} (h : an row) : eB 0 row above back = row := by
  have e : ∀ i, i ≤ row.length → gp 0 row above back i = row.take i := by
    intro i
    induction i with
    | zero => intro _; simp [gp]
    | succ i ih =>
      intro hi
      have hb := h.get i
      rw [gp, ih (by omega), ab.gR (by omega)]
      have e0 : ∀ a b c : Int, ly 0 a b c = 0 := fun a b c => by unfold ly; simp
      have e1 : iL 0 row above back (row.take i) i = row.getD i 0 := by
        unfold iL
        rw [e0, Int.add_zero]
        omega
      rw [e1]
  rw [eB, e _ (Nat.le_refl _), List.take_length]
def fq (w h : Int) : Hd := ⟨w, h, 16, 6, false⟩
theorem JD {P : List Int} {W H y m : Nat} (hP : P.length = 4 * W * H) (hy : y < H) (hm : m < 4 * W) : (hH P W y).getD (2 * m) 0 = P.getD (4 * W * y + m) 0 / 256 ∧ (hH P W y).getD (2 * m + 1) 0 = P.getD (4 * W * y + m) 0 % 256 := by
  have hle : 4 * W * (y + 1) ≤ 4 * W * H := Nat.mul_le_mul_left _ hy
  rw [Nat.mul_succ] at hle
  have hl : ((P.drop (4 * W * y)).take (4 * W)).length = 4 * W := by rw [List.length_take, List.length_drop]; omega
  have h := zv ((P.drop (4 * W * y)).take (4 * W)) m (by omega)
  have e : ((P.drop (4 * W * y)).take (4 * W)).getD m 0 = P.getD (4 * W * y + m) 0 := by
    rw [List.getD_eq_getElem?_getD, List.getD_eq_getElem?_getD, List.getElem?_take_of_lt hm, List.getElem?_drop]
  rw [e] at h
  exact h
theorem Rf {P : List Int} {W H y x : Nat} (w h : Int) (hU : tn P) (hP : P.length = 4 * W * H) (hy : y < H) (hx : x < W) : dX (fq w h) (hH P W y) x = [P.getD (4 * (W * y + x)) 0, P.getD (4 * (W * y + x) + 1) 0, P.getD (4 * (W * y + x) + 2) 0, P.getD (4 * (W * y + x) + 3) 0] := by
  have hb : an (hH P W y) := uC (fun z hz => hU z (List.mem_of_mem_drop (List.mem_of_mem_take hz)))
  have e : ∀ i, i < 4 → bO (hH P W y) (x * 4 * 16 + i * 16) 16 = P.getD (4 * (W * y + x) + i) 0 := fun i hi => by
    have g := JD (m := 4 * x + i) hP hy (by omega)
    have hu := hU.get (4 * W * y + (4 * x + i))
    have h16 := qG (hb.get (8 * x + 2 * i)) (hb.get (8 * x + 2 * i + 1))
    rw [show 8 * x + 2 * i = 2 * (4 * x + i) by omega, g.1, g.2] at h16
    rw [show x * 4 * 16 + i * 16 = 8 * (2 * (4 * x + i)) by omega, h16]
    have e3 : 4 * W * y + (4 * x + i) = 4 * (W * y + x) + i := by rw [Nat.mul_add, ← Nat.mul_assoc]; omega
    rw [e3] at hu ⊢
    omega
  have hp : dX (fq w h) (hH P W y) x = [bO (hH P W y) (x * 4 * 16 + 0 * 16) 16, bO (hH P W y) (x * 4 * 16 + 1 * 16) 16, bO (hH P W y) (x * 4 * 16 + 2 * 16) 16, bO (hH P W y) (x * 4 * 16 + 3 * 16) 16] := rfl
  rw [hp, e 0 (by decide), e 1 (by decide), e 2 (by decide), e 3 (by decide), Nat.add_zero]
theorem Ta (w h : Int) (plte trns : List Int) (a b c d : Int) : fS ⟨fq w h, plte, trns⟩ [a, b, c, d] = some [a, b, c, d] := by
  have e : ∀ v, Iz (fq w h) v = v := fun v => by
    have : (65535 : Int) / (2 ^ (16 : Int).toNat - 1) = 1 := by decide
    simp only [Iz, fq, this, Int.mul_one]
  unfold fS
  simp only [fq] at e ⊢
  rw [if_neg (by decide)]
  have hc : aR ⟨w, h, 16, 6, false⟩ trns = [] := by unfold aR; simp
  simp only [hc, List.length_nil, Nat.lt_irrefl, false_and, if_false, List.map_cons, List.map_nil, e]
  rw [if_neg (by decide)]
  simp
def laid (P : List Int) (k : Nat) : List Int := P.take (4 * k) ++ List.replicate (P.length - 4 * k) 0
theorem xq {P : List Int} {W : Nat} {y x : Nat} (hk : 4 * (W * y + x) + 4 ≤ P.length) : kN (W : Int) (laid P (W * y + x)) (0 + (x : Int) * 1) (0 + (y : Int) * 1) [P.getD (4 * (W * y + x)) 0, P.getD (4 * (W * y + x) + 1) 0, P.getD (4 * (W * y + x) + 2) 0, P.getD (4 * (W * y + x) + 3) 0] = laid P (W * y + (x + 1)) := by
  have e : (4 * ((0 + (y : Int) * 1) * (W : Int) + (0 + (x : Int) * 1))).toNat = 4 * (W * y + x) := by
    have : 4 * ((0 + (y : Int) * 1) * (W : Int) + (0 + (x : Int) * 1)) = ((4 * (W * y + x) : Nat) : Int) := by
      rw [Int.zero_add, Int.zero_add, Int.mul_one, Int.mul_one, Nat.mul_comm W y]; push_cast; rfl
    rw [this]; rfl
  unfold kN
  rw [e, show W * y + (x + 1) = (W * y + x) + 1 from rfl]
  clear e
  generalize W * y + x = k at hk
  have h1 : (laid P k).take (4 * k) = P.take (4 * k) := by
    unfold laid
    exact List.take_left' (by rw [List.length_take]; omega)
  have h2 : (laid P k).drop (4 * k + 4) = List.replicate (P.length - 4 * (k + 1)) 0 := by
    unfold laid
    rw [List.drop_append, List.drop_of_length_le (by rw [List.length_take]; omega), List.nil_append, List.length_take, List.drop_replicate]
    congr 1
    omega
  rw [h1, h2]
  unfold laid
  congr 1
  have h3 : P.take (4 * (k + 1)) = P.take (4 * k) ++ [P.getD (4 * k) 0] ++ [P.getD (4 * k + 1) 0] ++ [P.getD (4 * k + 2) 0] ++ [P.getD (4 * k + 3) 0] := by
    rw [show 4 * (k + 1) = 4 * k + 1 + 1 + 1 + 1 by omega, ab.gR (by omega), ab.gR (by omega), ab.gR (by omega), ab.gR (by omega)]
  rw [h3]
  simp
theorem Cx {P : List Int} {W H y : Nat} (w h : Int) (plte trns : List Int) (p : Ps) (hp : p.x = 0 ∧ p.y = 0 ∧ p.dx = 1 ∧ p.dy = 1) (hw : w = (W : Int)) (hU : tn P) (hP : P.length = 4 * W * H) (hy : y < H) : ∀ k i, i + k = W → dW ⟨fq w h, plte, trns⟩ p (y : Int) (hH P W y) k i (laid P (W * y + i)) = some (laid P (W * y + W))
  | 0, i, hi => by rw [dW, show i = W by omega]
  | k + 1, i, hi => by
    have hle : 4 * W * (y + 1) ≤ 4 * W * H := Nat.mul_le_mul_left _ hy
    rw [Nat.mul_succ, Nat.mul_assoc] at hle
    rw [dW, Rf w h hU hP hy (by omega), Ta]
    simp only [hp.1, hp.2.1, hp.2.2.1, hp.2.2.2]
    have e : (fq w h).w = (W : Int) := hw
    rw [e, xq (by omega)]
    exact Cx w h plte trns p hp hw hU hP hy k (i + 1) (by omega)
theorem zP {P : List Int} {W H : Nat} (w h : Int) (plte trns : List Int) (p : Ps) (hp : p.x = 0 ∧ p.y = 0 ∧ p.dx = 1 ∧ p.dy = 1) (hpw : p.w = (W : Int)) (hw : w = (W : Int)) (hU : tn P) (hP : P.length = 4 * W * H) : ∀ k y above, y + k = H → eb ⟨fq w h, plte, trns⟩ (bX P W H) (8 * W) 8 p k y (y * (1 + 8 * W)) above (laid P (W * y)) = some (H * (1 + 8 * W), laid P (W * H))
  | 0, y, above, hy => by rw [eb, show y = H by omega]
  | k + 1, y, above, hy => by
    have ha := KS hP (show y < H by omega)
    have hb : an (hH P W y) := uC (fun z hz => hU z (List.mem_of_mem_drop (List.mem_of_mem_take hz)))
    rw [eb, ha.1, if_neg (by decide), ha.2, TM hb]
    have hpn : p.w.toNat = W := by rw [hpw]; rfl
    have hr := Cx w h plte trns p hp hw hU hP (show y < H by omega) W 0 (by omega)
    rw [Nat.add_zero] at hr
    rw [hpn, hr]
    simp only
    have e : y * (1 + 8 * W) + 1 + 8 * W = (y + 1) * (1 + 8 * W) := by rw [Nat.succ_mul y (1 + 8 * W)]; omega
    rw [e, show W * y + W = W * (y + 1) from (Nat.mul_succ _ _).symm]
    exact zP w h plte trns p hp hpw hw hU hP k (y + 1) (hH P W y) (by omega)
theorem L8 {P : List Int} {W H : Nat} (plte trns : List Int) (hU : tn P) (hP : P.length = 4 * W * H) : eA ⟨fq (W : Int) (H : Int), plte, trns⟩ (bX P W H) (whole (W : Int) (H : Int)) 0 (laid P 0) = some P := by
  have e1 : (dE (W : Int) (bitsOf (fq (W : Int) (H : Int)))).toNat = 8 * W := by
    have : bitsOf (fq (W : Int) (H : Int)) = 64 := rfl
    rw [this]; unfold dE; omega
  have e2 : (max 1 (bitsOf (fq (W : Int) (H : Int)) / 8)).toNat = 8 := rfl
  have h := zP (W : Int) (H : Int) plte trns ⟨0, 0, 1, 1, (W : Int), (H : Int)⟩ ⟨rfl, rfl, rfl, rfl⟩ rfl rfl hU hP H 0 [] (by omega)
  rw [Nat.zero_mul, Nat.mul_zero] at h
  have e3 : laid P (W * H) = P := by
    unfold laid
    rw [← Nat.mul_assoc, ← hP, List.take_length, Nat.sub_self]
    simp
  rw [e3] at h
  unfold whole eA
  simp only [e1, e2]
  rw [show ((H : Int)).toNat = H from rfl, h]
  rfl
end Go.aa
namespace Go.aa
open Go.af
theorem Be : df bR := by decide
theorem BQ : df aZ := by decide
theorem I1 : df aY := by decide
theorem SF : df aQ := by decide
theorem NF : bR ≠ aY := by decide
theorem NN : aZ ≠ aY := by decide
theorem Xd : aQ ≠ aY := by decide
def hB (w h : Int) : List Int := [0, 0, w / 256, w % 256, 0, 0, h / 256, h % 256, 16, 6, 0, 0, 0]
def kz (w h : Int) (z : List Int) : List Ch := [⟨bR, hB w h⟩, ⟨aZ, z⟩, ⟨aY, []⟩]
def eO (P : List Int) (W H : Nat) : List Int := aX (kz (W : Int) (H : Int) (cP (bX P W H)))
structure Sz (P : List Int) (W H : Nat) : Prop where
  w : 1 ≤ W ∧ W ≤ 256
  h : 1 ≤ H ∧ H ≤ 256
  wh : W * H ≤ 16384
  len : P.length = 4 * W * H
  u : tn P
theorem IM {W H : Nat} (hw : 1 ≤ W ∧ W ≤ 256) (hh : 1 ≤ H ∧ H ≤ 256) : aL (hB (W : Int) (H : Int)) = fq (W : Int) (H : Int) := by
  unfold aL fq hB
  simp only [aG.cZ, List.drop_succ_cons, List.drop_zero, List.getD_cons_zero, List.getD_cons_succ]
  congr 1 <;> first | omega | rfl
theorem RW {W H : Nat} (hw : 1 ≤ W ∧ W ≤ 256) (hh : 1 ≤ H ∧ H ≤ 256) : an (hB (W : Int) (H : Int)) := fun x hx => by
  simp only [hB, List.mem_cons, List.not_mem_nil, or_false] at hx
  rcases hx with rfl | rfl | rfl | rfl | rfl | rfl | rfl | rfl | rfl | rfl | rfl | rfl | rfl <;> omega
theorem Nt {W H : Nat} (hw : 1 ≤ W ∧ W ≤ 256) (hh : 1 ≤ H ∧ H ≤ 256) (hwh : W * H ≤ 16384) : aW (W : Int) (H : Int) = 0 := by
  unfold aW
  have : (W : Int) ≤ 16384 / (H : Int) := by
    rw [Int.le_ediv_iff_mul_le (by omega)]
    have h2 : ((W * H : Nat) : Int) ≤ 16384 := by omega
    rw [Int.natCast_mul] at h2
    exact h2
  rw [if_neg (by omega), if_neg (by omega)]
theorem Xc {W H : Nat} (hw : 1 ≤ W ∧ W ≤ 256) (hh : 1 ≤ H ∧ H ≤ 256) (hwh : W * H ≤ 16384) : eJ (hB (W : Int) (H : Int)) = 0 := by
  unfold eJ
  rw [IM hw hh]
  have e1 : (fq (W : Int) (H : Int)).w = (W : Int) := rfl
  have e2 : (fq (W : Int) (H : Int)).h = (H : Int) := rfl
  have e3 : deep (fq (W : Int) (H : Int)).ar (fq (W : Int) (H : Int)).dep := show deep 6 16 by decide
  have e4 : (hB (W : Int) (H : Int)).getD 10 0 = 0 := rfl
  have e5 : (hB (W : Int) (H : Int)).getD 11 0 = 0 := rfl
  have e6 : (hB (W : Int) (H : Int)).getD 12 0 = 0 := rfl
  rw [if_neg (by unfold hB; simp), e1, e2, e4, e5, e6, if_neg (by rintro (h | h | h | h | h); exact h e3; omega; omega; omega; omega), Nt hw hh hwh, if_pos rfl]
theorem JH (w h : Int) (z : List Int) : cJ (kz w h z) = true := by
  have e : walk (((kz w h z).drop 1).take ((kz w h z).length - 2)) ⟨false, false, false, false⟩ = some ⟨false, false, true, false⟩ := rfl
  unfold cJ
  rw [e]
  rfl
theorem JJ (w h : Int) (z : List Int) : mb (fq w h) (bC (kz w h z) aT) (dV (kz w h z) aT) (bC (kz w h z) aQ) (dV (kz w h z) aQ) := by
  have e1 : dV (kz w h z) aT = false := rfl
  have e2 : dV (kz w h z) aQ = false := rfl
  rw [e1, e2]
  unfold mb
  simp [fq]
theorem FO (w h : Int) (z : List Int) : bW (kz w h z) = z := by
  have : bW (kz w h z) = z ++ [] := rfl
  rw [this, List.append_nil]
theorem zl {P : List Int} {W H : Nat} (s : Sz P W H) : (bX P W H).length = H * (1 + 8 * W) := rq s.len H (Nat.le_refl _)
theorem LZ {W H : Nat} (hw : 1 ≤ W ∧ W ≤ 256) : want (fq (W : Int) (H : Int)) = ((H * (1 + 8 * W) : Nat) : Int) := by
  have e : want (fq (W : Int) (H : Int)) = ([if 0 < (W : Int) then (H : Int) * (1 + dE (W : Int) 64) else 0] : List Int).sum := rfl
  have e2 : dE (W : Int) 64 = 8 * (W : Int) := by unfold dE; omega
  rw [e, if_pos (by omega), e2]
  simp
theorem nC {P : List Int} {W H : Nat} (s : Sz P W H) : (bX P W H).length ≤ 131328 := by
  have h1 := zl s
  have h2 := s.wh
  have h3 := s.h.2
  have e : H * (1 + 8 * W) = H + 8 * (W * H) := by rw [Nat.mul_add, Nat.mul_one, Nat.mul_comm H (8 * W), Nat.mul_assoc]
  omega
theorem s8 {P : List Int} {W H : Nat} (s : Sz P W H) : ∀ c ∈ [(⟨bR, hB (W : Int) (H : Int)⟩ : Ch), ⟨aZ, cP (bX P W H)⟩], jL c ∧ c.k ≠ aY := fun c hc => by
  have hr := nC s
  have hb := Fj (nO W s.u H) (by omega)
  have hl := mY (B := bX P W H) (by omega)
  simp only [List.mem_cons, List.not_mem_nil, or_false] at hc
  rcases hc with rfl | rfl
  · exact ⟨⟨Be, RW s.w s.h, by simp [hB]⟩, NF⟩
  · exact ⟨⟨BQ, hb, by simp only; omega⟩, NN⟩
theorem nb : jL ⟨aY, []⟩ := ⟨I1, aH.gj, by decide⟩
theorem pn {P : List Int} {W H : Nat} (s : Sz P W H) : (eO P W H).length = 57 + (cP (bX P W H)).length := by
  have e : eO P W H = ea ++ (e9 ⟨bR, hB (W : Int) (H : Int)⟩ ++ (e9 ⟨aZ, cP (bX P W H)⟩ ++ e9 ⟨aY, []⟩)) := by simp [eO, aX, gy, kz]
  rw [e, List.length_append, List.length_append, List.length_append, iu Be.1, iu BQ.1, iu I1.1]
  simp [ea, hB]
  omega
theorem EA {P : List Int} {W H : Nat} (s : Sz P W H) : cut (eO P W H) = .ok (kz (W : Int) (H : Int) (cP (bX P W H))) := by
  have hr := nC s
  have hl := mY (B := bX P W H) (by omega)
  have hp := pn s
  exact yd (l := [⟨bR, hB (W : Int) (H : Int)⟩, ⟨aZ, cP (bX P W H)⟩]) nb rfl (s8 s) (by
    have : (eO P W H).length ≤ 262144 := by omega
    exact this)
theorem Cq {P : List Int} {W H : Nat} (s : Sz P W H) : an (eO P W H) := vH (fun c hc => by
  have hc : c ∈ [(⟨bR, hB (W : Int) (H : Int)⟩ : Ch), ⟨aZ, cP (bX P W H)⟩] ++ [⟨aY, []⟩] := hc
  rcases List.mem_append.1 hc with h | h
  · exact (s8 s c h).1
  · rw [List.mem_singleton.1 h]; exact nb)
theorem ER {P : List Int} {W H : Nat} (s : Sz P W H) : iZ (fq (W : Int) (H : Int)) = laid P 0 := by
  have e : (4 * (W : Int) * (H : Int)).toNat = P.length := by
    have : 4 * (W : Int) * (H : Int) = ((4 * W * H : Nat) : Int) := by push_cast; rfl
    rw [this, s.len]; rfl
  unfold iZ laid
  simp only [fq, e, Nat.mul_zero, List.take_zero, List.nil_append, Nat.sub_zero]
theorem CW {P : List Int} {W H : Nat} (s : Sz P W H) : kt (eO P W H) (⟨(W : Int), (H : Int), P⟩, 0) := by
  have hr := nC s
  have hrl := zl s
  have hw := LZ (H := H) s.w
  have hd : (((kz (W : Int) (H : Int) (cP (bX P W H))).map Ch.d).getD 0 []) = hB (W : Int) (H : Int) := rfl
  unfold kt
  rw [EA s]
  simp only [hd, IM s.w s.h, Xc s.w s.h s.wh, FO]
  rw [if_neg (by rw [JH]; decide), if_neg (fun h => h rfl), if_neg (fun h => h (JJ _ _ _))]
  have hwant : fh (aN (fq (W : Int) (H : Int))) (bitsOf (fq (W : Int) (H : Int))) = (((bX P W H).length : Nat) : Int) := by rw [hrl]; exact hw
  rw [hwant]
  refine ⟨(bX P W H, 0), DL (nO W s.u H) (by omega) (Int.le_refl _), ?_⟩
  rw [if_neg (fun h => h rfl), if_neg (Int.lt_irrefl _)]
  have hdr := L8 (bC (kz (W : Int) (H : Int) (cP (bX P W H))) aT) (bC (kz (W : Int) (H : Int) (cP (bX P W H))) aQ) s.u s.len
  have h0 := ER s
  unfold iZ at h0
  have hp : aN (fq (W : Int) (H : Int)) = whole (W : Int) (H : Int) := rfl
  rw [hp, h0]
  simp only
  rw [hdr]
  rfl
end Go.aa
namespace Go.aa
open Go.af
theorem vp {x : Int} (h0 : 0 ≤ x ∧ x < 4294967296) : IntKind.u32.wrap ((BitVec.ofInt IntKind.u32.bits x &&& BitVec.ofInt IntKind.u32.bits 1).toNat : Int) = x % 2 := by
  obtain ⟨a, rfl⟩ : ∃ a : Nat, x = (a : Int) := ⟨x.toNat, by omega⟩
  have e : IntKind.u32.bits = 32 := rfl
  have e1 : BitVec.ofInt 32 1 = BitVec.ofInt 32 ((1 : Nat) : Int) := rfl
  rw [e, e1, BitVec.toNat_and, cy, cy, Nat.mod_eq_of_lt (by omega), Nat.mod_eq_of_lt (by omega), Nat.and_one_is_mod, aG.wrap32 (by omega) (by omega)]
  omega
theorem lD {x r : Int} {n : Nat} {d : Int} (hd : d = (n : Int)) (hn : n ≤ 32) (hr : x / 2 ^ n = r) : x.fdiv (2 ^ (min d.toNat IntKind.u32.bits)) = r := by rw [aG.BC hd hn, hr]
theorem ft (n : Int) : IntKind.u8.wrap n = n % 256 := rfl
def fN (k : Nat) (x : Int) : Int := ((jT k x.toNat : Nat) : Int)
theorem HJ {x : Int} (h : 0 ≤ x) : fN 0 x = x := by unfold fN jT; omega
theorem HB (x : Int) : fN 8 x = fI x := rfl
theorem EG {x : Int} (h : 0 ≤ x ∧ x < 4294967296) (k : Nat) : 0 ≤ fN k x ∧ fN k x < 4294967296 := by
  have := Cc (x := x.toNat) (by omega) k
  unfold fN; omega
theorem AD {x : Int} {k : Nat} (h : fN k x % 2 = 1) : fN (k + 1) x = dr (fN k x / 2) 3988292384 := by
  have h2 : jT k x.toNat % 2 = 1 := by unfold fN at h; omega
  have e : ((jT k x.toNat : Nat) : Int) / 2 = ((jT k x.toNat / 2 : Nat) : Int) := by omega
  unfold fN dr
  rw [jT, pZ, if_pos h2, e, Int.toNat_natCast]
  rfl
theorem yF {x : Int} {k : Nat} (h : ¬ fN k x % 2 = 1) : fN (k + 1) x = fN k x / 2 := by
  have h2 : ¬ jT k x.toNat % 2 = 1 := by unfold fN at h; omega
  unfold fN
  rw [jT, pZ, if_neg h2]
  omega
def gl (i : Nat) : List Int := (List.range i).map (fun j => fI (j : Nat)) ++ List.replicate (256 - i) 0
def eM : List Int := gl 256
theorem xN {i : Nat} (h : i ≤ 256) : (gl i).length = 256 := by simp [gl]; omega
theorem OK : gl 0 = List.replicate 256 0 := rfl
theorem G0 {i : Nat} (h : i < 256) : (gl i).set i (fI (i : Nat)) = gl (i + 1) := by
  unfold gl
  rw [List.set_append_right _ _ (by simp), List.length_map, List.length_range, Nat.sub_self, show 256 - i = (256 - (i + 1)) + 1 by omega, List.replicate_succ, List.set_cons_zero, List.range_succ, List.map_append]
  simp
theorem GU {x : Int} (h : 0 ≤ x ∧ x < 256) : eM.getD x.toNat 0 = fI x := by
  obtain ⟨n, rfl⟩ : ∃ n : Nat, x = (n : Int) := ⟨x.toNat, by omega⟩
  have hn : n < 256 := by omega
  have : eM = (List.range 256).map (fun j => fI (j : Nat)) := by unfold eM gl; simp
  rw [this, Int.toNat_natCast, List.getD_eq_getElem?_getD, List.getElem?_map, List.getElem?_range hn]
  rfl
theorem bp {l : List Int} (h : an l) : ∀ x ∈ l, 0 ≤ x ∧ x < 256 := h
theorem Kd : gl 256 = eM := rfl
theorem fP {l : List Int} (h : an l) (i : Nat) : an (l.take i) := fun x hx => h x (List.mem_of_mem_take hx)
theorem Lg : eM.length = 256 := xN (Nat.le_refl _)
theorem Oa {a b : Int} (ha : 0 ≤ a ∧ a < 256) (hb : 0 ≤ b ∧ b < 256) : 0 ≤ dr a b ∧ dr a b < 256 := pU (n := 8) ha hb
theorem La {a b : Int} (ha : 0 ≤ a ∧ a < 4294967296) (hb : 0 ≤ b ∧ b < 4294967296) : 0 ≤ dr a b ∧ dr a b < 4294967296 := pU (n := 32) ha hb
end Go.aa
namespace Go.aa
open Go.af
theorem OE (c : Int) : (97 ≤ c ∧ c ≤ 122) ∨ (97 ≤ c ∧ ¬ c ≤ 122) ∨ (¬ 97 ≤ c ∧ 65 ≤ c ∧ c ≤ 90) ∨ (¬ 97 ≤ c ∧ 65 ≤ c ∧ ¬ c ≤ 90) ∨ (¬ 97 ≤ c ∧ ¬ 65 ≤ c) := by omega
theorem ux {k : List Int} {i : Nat} (h : ¬ jG (k.getD i 0)) (hi : i < k.length) : ¬ df k := fun hn => h (by
  rw [List.getD_eq_getElem?_getD, List.getElem?_eq_getElem hi]
  exact hn.2 _ (List.getElem_mem hi))
theorem AN {k : List Int} (h : ∀ j, j < k.length → jG (k.getD j 0)) : df k ↔ k.length = 4 := by
  constructor
  · exact fun h => h.1
  · refine fun h4 => ⟨h4, fun c hc => ?_⟩
    obtain ⟨j, hj, rfl⟩ := List.getElem_of_mem hc
    have := h j hj
    rwa [List.getD_eq_getElem?_getD, List.getElem?_eq_getElem hj] at this
theorem Ub {k : List Int} {t : Bool} (ht : t = decide (df k)) (h : ∀ j, j < k.length → jG (k.getD j 0)) : decide ((k.length : Int) = 4) = t := by
  rw [ht]
  have := AN h
  by_cases h4 : k.length = 4
  · rw [decide_eq_true (this.2 h4), decide_eq_true (by omega)]
  · rw [decide_eq_false (fun hh => h4 (this.1 hh)), decide_eq_false (by omega)]
def ac (B : List Int) : Nat → Int
  | 0 => 0
  | i + 1 => ac B i * 256 + B.getD i 0
theorem XF (B : List Int) : ac B 4 = aG.cZ B := by simp only [ac, aG.cZ]; omega
theorem SL {B : List Int} (hB : an B) {i : Nat} (hi : i < 4) : 0 ≤ ac B i ∧ ac B i < 16777216 := by
  have h0 := hB.get 0; have h1 := hB.get 1; have h2 := hB.get 2
  have : i = 0 ∨ i = 1 ∨ i = 2 ∨ i = 3 := by omega
  rcases this with rfl | rfl | rfl | rfl <;> simp only [ac] <;> omega
theorem Dh {B : List Int} {n i : Nat} (h : i < n) : (B.take n).getD i 0 = B.getD i 0 := by
  rw [List.getD_eq_getElem?_getD, List.getD_eq_getElem?_getD, List.getElem?_take_of_lt h]
end Go.aa
namespace Go.aa
open Go.af
theorem yl {L : List Int} (hL : an L) : (L.length < 12 ∧ first L = .error 2) ∨
    (∃ n : Nat, 12 ≤ L.length ∧ aG.cZ L = (n : Int) ∧ n < 4294967296 ∧ 2147483647 < n ∧ first L = .error 4) ∨
    (∃ n : Nat, 12 ≤ L.length ∧ aG.cZ L = (n : Int) ∧ n ≤ 2147483647 ∧ ¬ df ((L.drop 4).take 4) ∧ first L = .error 4) ∨
    (∃ n : Nat, 12 ≤ L.length ∧ aG.cZ L = (n : Int) ∧ n ≤ 2147483647 ∧ df ((L.drop 4).take 4) ∧ L.length < 12 + n ∧ first L = .error 2) ∨
    (∃ n : Nat, 12 ≤ L.length ∧ aG.cZ L = (n : Int) ∧ n ≤ 2147483647 ∧ df ((L.drop 4).take 4) ∧ 12 + n ≤ L.length ∧ aG.cZ (L.drop (8 + n)) = gf ((L.drop 4).take 4) ((L.drop 8).take n) ∧ first L = .ok ⟨(L.drop 4).take 4, (L.drop 8).take n⟩) ∨
    (∃ n : Nat, 12 ≤ L.length ∧ aG.cZ L = (n : Int) ∧ n ≤ 2147483647 ∧ df ((L.drop 4).take 4) ∧ 12 + n ≤ L.length ∧ ¬ aG.cZ (L.drop (8 + n)) = gf ((L.drop 4).take 4) ((L.drop 8).take n) ∧ first L = .error 5) := by
  rcases MO hL with h | ⟨n, h12, hn, hb, ⟨h1, h2⟩ | ⟨h1, h2, h3⟩ | ⟨h1, h2, h3, h4⟩ | ⟨h1, h2, h3, h4, h5⟩ | ⟨h1, h2, h3, h4, h5⟩⟩
  · exact .inl h
  · exact .inr (.inl ⟨n, h12, hn, hb, h1, h2⟩)
  · exact .inr (.inr (.inl ⟨n, h12, hn, h1, h2, h3⟩))
  · exact .inr (.inr (.inr (.inl ⟨n, h12, hn, h1, h2, h3, h4⟩)))
  · exact .inr (.inr (.inr (.inr (.inl ⟨n, h12, hn, h5, h2, h1, h3, h4⟩))))
  · exact .inr (.inr (.inr (.inr (.inr ⟨n, h12, hn, h5, h2, h1, h3, h4⟩))))
theorem dQ {l : List Int} (h : an l) (i : Nat) : an (l.drop i) := fun x hx => h x (List.mem_of_mem_drop hx)
theorem jY {l : List Int} {i n : Nat} (h : i + n ≤ l.length) : ((l.drop i).take n).length = n := by rw [List.length_take, List.length_drop]; omega
end Go.aa
namespace Go.aa
open Go.af
theorem Ff {L : List Int} {x : Ch} (hL : an L) (h : first L = .ok x) : 12 + x.d.length ≤ L.length ∧ df x.k ∧ an x.d := by
  rcases yl hL with ⟨_, h1⟩ | ⟨n, _, _, _, _, h1⟩ | ⟨n, _, _, _, _, h1⟩ | ⟨n, _, _, _, _, _, h1⟩ | ⟨n, _, _, _, h2, h3, _, h1⟩ | ⟨n, _, _, _, _, _, _, h1⟩ <;> rw [h1] at h <;> cases h
  refine ⟨?_, h2, fP (dQ hL 8) n⟩
  have := jY (l := L) (i := 8) (n := n) (by omega)
  show 12 + ((L.drop 8).take n).length ≤ _
  omega
theorem Ht {L : List Int} {e : Int} (hL : an L) (h : first L = .error e) : e ≠ 0 := by
  rcases yl hL with ⟨_, h1⟩ | ⟨n, _, _, _, _, h1⟩ | ⟨n, _, _, _, _, h1⟩ | ⟨n, _, _, _, _, _, h1⟩ | ⟨n, _, _, _, h2, h3, _, h1⟩ | ⟨n, _, _, _, _, _, _, h1⟩ <;> rw [h1] at h <;> cases h <;> decide
theorem XI {Z : List Int} (hZ : an Z) : (∃ e, first Z = .error e ∧ e ≠ 0) ∨ (∃ x, first Z = .ok x ∧ 12 + x.d.length ≤ Z.length ∧ df x.k ∧ an x.d ∧ x.k ≠ aY) ∨
    (∃ x, first Z = .ok x ∧ 12 + x.d.length = Z.length ∧ df x.k ∧ an x.d ∧ x.k = aY) ∨ (∃ x, first Z = .ok x ∧ 12 + x.d.length < Z.length ∧ df x.k ∧ an x.d ∧ x.k = aY) := by
  cases h : first Z with
  | error e => exact .inl ⟨e, rfl, Ht hZ h⟩
  | ok x =>
    obtain ⟨h1, h2, h3⟩ := Ff hZ h
    by_cases hk : x.k = aY
    · rcases Nat.lt_or_ge (12 + x.d.length) Z.length with h4 | h4
      · exact .inr (.inr (.inr ⟨x, rfl, h4, h2, h3, hk⟩))
      · exact .inr (.inr (.inl ⟨x, rfl, by omega, h2, h3, hk⟩))
    · exact .inr (.inl ⟨x, rfl, h1, h2, h3, hk⟩)
theorem Mg {f : Nat} {Z : List Int} {l : List Ch} {e : Int} (h : first Z = .error e) : fy (f + 1) Z l = .error e := by rw [fy, h]
theorem Nf {f : Nat} {Z : List Int} {l : List Ch} {x : Ch} (h : first Z = .ok x) (hk : x.k ≠ aY) : fy (f + 1) Z l = fy f (Z.drop (12 + x.d.length)) (l ++ [x]) := by
  rw [fy, h]; simp only; rw [if_neg hk]
theorem MT {f : Nat} {Z : List Int} {l : List Ch} {x : Ch} (h : first Z = .ok x) (hk : x.k = aY) (hl : 12 + x.d.length = Z.length) : fy (f + 1) Z l = .ok (l ++ [x]) := by
  rw [fy, h]; simp only; rw [if_pos hk, if_pos (by omega)]
theorem My {f : Nat} {Z : List Int} {l : List Ch} {x : Ch} (h : first Z = .ok x) (hk : x.k = aY) (hl : 12 + x.d.length < Z.length) : fy (f + 1) Z l = .error 4 := by
  rw [fy, h]; simp only; rw [if_pos hk, if_neg (by omega)]
theorem RA (B : List Int) : (262144 < B.length ∧ cut B = .error 3) ∨ (B.length < 8 ∧ cut B = .error 2) ∨ (B.length ≤ 262144 ∧ 8 ≤ B.length ∧ B.take 8 ≠ ea ∧ cut B = .error 4) ∨ (B.length ≤ 262144 ∧ 8 ≤ B.length ∧ B.take 8 = ea ∧ fy (B.length + 1) (B.drop 8) [] = cut B) := by
  rcases Nat.lt_or_ge 262144 B.length with h | h
  · exact .inl ⟨h, by unfold cut; rw [if_pos h]⟩
  · rcases Nat.lt_or_ge B.length 8 with h2 | h2
    · exact .inr (.inl ⟨h2, by unfold cut; rw [if_neg (by omega), if_pos h2]⟩)
    · by_cases h3 : B.take 8 = ea
      · exact .inr (.inr (.inr ⟨h, h2, h3, by unfold cut; rw [if_neg (by omega), if_neg (by omega), if_pos h3]⟩))
      · exact .inr (.inr (.inl ⟨h, h2, h3, by unfold cut; rw [if_neg (by omega), if_neg (by omega), if_neg h3]⟩))
theorem ym : ea.length = 8 := rfl
theorem rJ : an ea := by unfold an; decide
theorem wP : an aY := by unfold an; decide
end Go.aa
namespace Go.aa
open Go.af
theorem Xp {p t i o : Bool} {c : Ch} (h : c.k = aZ) : bT ⟨p, t, i, o⟩ c = (⟨p, t, true, o⟩, !o) := by unfold bT; rw [if_pos h]
theorem T0 {p i o : Bool} {c : Ch} (h1 : c.k ≠ aZ) (h2 : c.k = aT) : bT ⟨p, true, i, o⟩ c = (⟨p, true, i, i⟩, false) := by unfold bT; rw [if_neg h1, if_pos h2]; rfl
theorem S6 {p i o : Bool} {c : Ch} (h1 : c.k ≠ aZ) (h2 : c.k = aT) : bT ⟨p, false, i, o⟩ c = (⟨true, false, i, i⟩, !p && !i) := by unfold bT; rw [if_neg h1, if_pos h2]; rfl
theorem W8 {p t i o : Bool} {c : Ch} (h1 : c.k ≠ aZ) (h2 : c.k ≠ aT) (h3 : c.k = aQ) : bT ⟨p, t, i, o⟩ c = (⟨p, true, i, i⟩, !t && !i) := by unfold bT; rw [if_neg h1, if_neg h2, if_pos h3]
theorem Hb {p t i o : Bool} {c : Ch} {r : Bool} (h1 : c.k ≠ aZ) (h2 : c.k ≠ aT) (h3 : c.k ≠ aQ) (hr : r = (decide (df c.k) && !decide (fM c.k))) : bT ⟨p, t, i, o⟩ c = (⟨p, t, i, i⟩, r) := by unfold bT; rw [if_neg h1, if_neg h2, if_neg h3, hr]
theorem SB (k : List Int) (t : Bool) : k = aZ ∨ (k ≠ aZ ∧ k = aT ∧ t = true) ∨ (k ≠ aZ ∧ k = aT ∧ t = false) ∨ (k ≠ aZ ∧ k ≠ aT ∧ k = aQ) ∨ (k ≠ aZ ∧ k ≠ aT ∧ k ≠ aQ ∧ ¬ df k) ∨ (k ≠ aZ ∧ k ≠ aT ∧ k ≠ aQ ∧ df k ∧ fM k) ∨ (k ≠ aZ ∧ k ≠ aT ∧ k ≠ aQ ∧ df k ∧ ¬ fM k) := by
  by_cases h1 : k = aZ
  · exact .inl h1
  · by_cases h2 : k = aT
    · cases t
      · exact .inr (.inr (.inl ⟨h1, h2, rfl⟩))
      · exact .inr (.inl ⟨h1, h2, rfl⟩)
    · by_cases h3 : k = aQ
      · exact .inr (.inr (.inr (.inl ⟨h1, h2, h3⟩)))
      · by_cases h4 : df k
        · by_cases h5 : fM k
          · exact .inr (.inr (.inr (.inr (.inr (.inl ⟨h1, h2, h3, h4, h5⟩)))))
          · exact .inr (.inr (.inr (.inr (.inr (.inr ⟨h1, h2, h3, h4, h5⟩)))))
        · exact .inr (.inr (.inr (.inr (.inl ⟨h1, h2, h3, h4⟩))))
theorem ze {k : List Int} (h : df k) : k.length = 4 := h.1
theorem O2 {k : List Int} {t : Bool} (ht : t = decide (fM k)) (h : df k) : t = decide (k.getD 0 0 ≤ 90) := by
  rw [ht]
  by_cases h9 : k.getD 0 0 ≤ 90
  · exact (decide_eq_true (show fM k from ⟨h, h9⟩)).trans (decide_eq_true h9).symm
  · exact (decide_eq_false (fun hh : fM k => h9 hh.2)).trans (decide_eq_false h9).symm
theorem Oo {k : List Int} {t : Bool} (ht : t = decide (fM k)) (h : ¬ df k) : t = false := ht.trans (decide_eq_false (fun hh => h hh.1))
theorem Xb {k : List Int} (h : ¬ df k) : false = (decide (df k) && !decide (fM k)) := by rw [decide_eq_false h]; rfl
theorem Wz {k : List Int} (h : fM k) : false = (decide (df k) && !decide (fM k)) := by rw [decide_eq_true h]; simp
theorem W4 {k : List Int} (h : df k) (h2 : ¬ fM k) : true = (decide (df k) && !decide (fM k)) := by rw [decide_eq_true h, decide_eq_false h2]; rfl
theorem qF : an aZ := by unfold an; decide
theorem qt : an aT := by unfold an; decide
theorem qp : an aQ := by unfold an; decide
theorem KH : an bR := by unfold an; decide
def xj : Wk := ⟨false, false, false, false⟩
def aK (l : List Ch) : List Ch := (l.drop 1).take (l.length - 2)
def wid (o : Option Wk) : Bool := match o with | some w => w.bW | none => false
theorem XR (l : List Ch) : (l.length < 3 ∧ cJ l = false) ∨ (3 ≤ l.length ∧ ((l.map Ch.k).getD 0 [] ≠ bR) ∧ cJ l = false) ∨ (3 ≤ l.length ∧ (l.map Ch.k).getD 0 [] = bR ∧ ¬ ((l.map (·.d.length)).getD 0 0 = 13) ∧ cJ l = false) ∨
    (3 ≤ l.length ∧ (l.map Ch.k).getD 0 [] = bR ∧ (l.map (·.d.length)).getD 0 0 = 13 ∧ (l.map Ch.k).getD (l.length - 1) [] ≠ aY ∧ cJ l = false) ∨
    (3 ≤ l.length ∧ (l.map Ch.k).getD 0 [] = bR ∧ (l.map (·.d.length)).getD 0 0 = 13 ∧ (l.map Ch.k).getD (l.length - 1) [] = aY ∧ ¬ ((l.map (·.d.length)).getD (l.length - 1) 0 = 0) ∧ cJ l = false) ∨
    (3 ≤ l.length ∧ (l.map Ch.k).getD 0 [] = bR ∧ (l.map (·.d.length)).getD 0 0 = 13 ∧ (l.map Ch.k).getD (l.length - 1) [] = aY ∧ (l.map (·.d.length)).getD (l.length - 1) 0 = 0 ∧ cJ l = wid (walk (aK l) xj)) := by
  by_cases h1 : 3 ≤ l.length
  · by_cases h2 : (l.map Ch.k).getD 0 [] = bR
    · by_cases h3 : (l.map (·.d.length)).getD 0 0 = 13
      · by_cases h4 : (l.map Ch.k).getD (l.length - 1) [] = aY
        · by_cases h5 : (l.map (·.d.length)).getD (l.length - 1) 0 = 0
          · refine .inr (.inr (.inr (.inr (.inr ⟨h1, h2, h3, h4, h5, ?_⟩))))
            unfold cJ
            rw [h2, h3, h4, h5, decide_eq_true h1, show (bR == bR) = true by decide, show (aY == aY) = true by decide]
            rfl
          · refine .inr (.inr (.inr (.inr (.inl ⟨h1, h2, h3, h4, h5, ?_⟩))))
            unfold cJ
            rw [beq_eq_false_iff_ne.2 h5]
            simp
        · refine .inr (.inr (.inr (.inl ⟨h1, h2, h3, h4, ?_⟩)))
          unfold cJ
          rw [beq_eq_false_iff_ne.2 h4]
          simp
      · refine .inr (.inr (.inl ⟨h1, h2, h3, ?_⟩))
        unfold cJ
        rw [beq_eq_false_iff_ne.2 h3]
        simp
    · refine .inr (.inl ⟨h1, h2, ?_⟩)
      unfold cJ
      rw [beq_eq_false_iff_ne.2 h2]
      simp
  · refine .inl ⟨by omega, ?_⟩
    unfold cJ
    rw [decide_eq_false h1]
    simp
theorem Oi {l : List Ch} {i : Nat} {w : Wk} (c : Ch) (hc : l[i]? = some c) : walk (l.drop i) w = (if (bT w c).2 then walk (l.drop (i + 1)) (bT w c).1 else none) := by
  have hlt := (List.getElem?_eq_some_iff.1 hc).1
  rw [List.drop_eq_getElem_cons hlt, walk]
  have : l[i] = c := by rw [List.getElem?_eq_getElem hlt] at hc; exact Option.some.inj hc
  rw [this]
theorem D2 {l : List Ch} {i : Nat} {w : Wk} (h : l.length ≤ i) : walk (l.drop i) w = some w := by rw [List.drop_of_length_le h, walk]
end Go.aa
namespace Go.aa
open Go.af
def G1 (l : List Ch) : Int := if cJ l then 0 else 4
theorem pc {l : List Ch} (h : cJ l = true) : G1 l = 0 := if_pos h
theorem lf {l : List Ch} (h : cJ l = false) : G1 l = 4 := if_neg (by rw [h]; decide)
theorem Pz (b : Bool) : b = true ∨ b = false := by cases b <;> simp
theorem zM {l : List Ch} (h : 3 ≤ l.length) : (aK l).length = l.length - 2 := by unfold aK; rw [List.length_take, List.length_drop]; omega
theorem Kc {l : List Ch} {i : Nat} (h : i < l.length - 2) : (aK l)[i]? = l[1 + i]? := by unfold aK; rw [List.getElem?_take_of_lt h, List.getElem?_drop]
theorem Eo {l : List Ch} (h : cJ l = wid (walk (aK l) xj)) {w : Wk} (hw : walk (aK l) xj = some w) : cJ l = w.bW := by rw [h, hw]; rfl
theorem Ox {l : List Ch} (h : cJ l = wid (walk (aK l) xj)) (hw : walk (aK l) xj = none) : cJ l = false := by rw [h, hw]; rfl
end Go.aa
namespace Go.aa
open Go.af
def mJ (c : Int) : Int := IntKind.u8.wrap ((BitVec.ofInt IntKind.u8.bits c ||| BitVec.ofInt IntKind.u8.bits 32).toNat : Int)
theorem Kw : ∀ k : Fin 256, (decide (97 ≤ mJ ((k.val : Nat) : Int) ∧ mJ ((k.val : Nat) : Int) ≤ 122) == decide (jG ((k.val : Nat) : Int))) = true := by decide +kernel
theorem Ju {c : Int} (h : 0 ≤ c ∧ c < 256) : (97 ≤ mJ c ∧ mJ c ≤ 122) ↔ jG c := by
  obtain ⟨k, rfl⟩ := aG.ry h
  have := Kw k
  rw [beq_iff_eq] at this
  by_cases h1 : jG ((k.val : Nat) : Int)
  · rw [decide_eq_true h1] at this; exact ⟨fun _ => h1, fun _ => of_decide_eq_true this⟩
  · rw [decide_eq_false h1] at this; exact ⟨fun hh => absurd hh (of_decide_eq_false this), fun hh => absurd hh h1⟩
theorem o3 {c : Int} (h : 0 ≤ c ∧ c < 256) : (mJ c < 97 ∧ ¬ jG c) ∨ (¬ mJ c < 97 ∧ 122 < mJ c ∧ ¬ jG c) ∨ (¬ mJ c < 97 ∧ ¬ 122 < mJ c ∧ jG c) := by
  have := Ju h
  rcases Int.lt_or_le (mJ c) 97 with h1 | h1
  · exact .inl ⟨h1, fun hh => by have := this.2 hh; omega⟩
  · rcases Int.lt_or_le 122 (mJ c) with h2 | h2
    · exact .inr (.inl ⟨by omega, h2, fun hh => by have := this.2 hh; omega⟩)
    · exact .inr (.inr ⟨by omega, by omega, this.1 ⟨h1, h2⟩⟩)
theorem TL {k : List Int} (h : ¬ k.length = 4) : ¬ df k := fun hn => h hn.1
end Go.aa
namespace Go.aa
open Go.af
variable {n i : Nat} {prev : List Int} {c : Ch} {s : Od}
end Go.aa
namespace Go.aa
open Go.af Go.Sl
theorem Py {a b A B : Int} (ha : 0 ≤ a ∧ a ≤ A) (hb : 0 ≤ b ∧ b ≤ B) : 0 ≤ a * b ∧ a * b ≤ A * B := ⟨Int.mul_nonneg ha.1 hb.1, Int.mul_le_mul ha.2 hb.2 hb.1 (by omega)⟩
theorem Bz (w h : Int) : (w < 1 ∧ aW w h = 1) ∨ (¬ w < 1 ∧ h < 1 ∧ aW w h = 1) ∨ (¬ w < 1 ∧ ¬ h < 1 ∧ 256 < w ∧ aW w h = 6) ∨ (¬ w < 1 ∧ ¬ h < 1 ∧ ¬ 256 < w ∧ 256 < h ∧ aW w h = 6) ∨ (¬ w < 1 ∧ ¬ h < 1 ∧ ¬ 256 < w ∧ ¬ 256 < h ∧ 16384 / h < w ∧ aW w h = 6) ∨ (¬ w < 1 ∧ ¬ h < 1 ∧ ¬ 256 < w ∧ ¬ 256 < h ∧ ¬ 16384 / h < w ∧ aW w h = 0) := by
  unfold aW
  by_cases h1 : w < 1
  · exact .inl ⟨h1, if_pos (.inl h1)⟩
  by_cases h2 : h < 1
  · exact .inr (.inl ⟨h1, h2, if_pos (.inr h2)⟩)
  rw [if_neg (by omega)]
  by_cases h3 : 256 < w
  · exact .inr (.inr (.inl ⟨h1, h2, h3, if_pos (.inl h3)⟩))
  by_cases h4 : 256 < h
  · exact .inr (.inr (.inr (.inl ⟨h1, h2, h3, h4, if_pos (.inr (.inl h4))⟩)))
  by_cases h5 : 16384 / h < w
  · exact .inr (.inr (.inr (.inr (.inl ⟨h1, h2, h3, h4, h5, if_pos (.inr (.inr h5))⟩))))
  · exact .inr (.inr (.inr (.inr (.inr ⟨h1, h2, h3, h4, h5, if_neg (by rintro (h | h | h); exact h3 h; exact h4 h; exact h5 h)⟩))))
theorem jE {w h : Int} (hs : aW w h = 0) : 1 ≤ w ∧ w ≤ 256 ∧ 1 ≤ h ∧ h ≤ 256 ∧ 1 ≤ w * h ∧ w * h ≤ 16384 := by
  rcases Bz w h with h | h | h | h | h | ⟨h1, h2, h3, h4, h5, _⟩ <;> try omega
  have hm : w * h ≤ 16384 / h * h := Int.mul_le_mul_of_nonneg_right (by omega) (by omega)
  have hd : 16384 / h * h ≤ 16384 := Int.ediv_mul_le _ (by omega)
  have hp : 0 < w * h := Int.mul_pos (by omega) (by omega)
  omega
theorem pW {w h : Int} (hs : aW w h = 0) : 4 ≤ 4 * w * h ∧ 4 * w * h ≤ 65536 := by
  have := jE hs
  rw [Int.mul_assoc]; omega
theorem oX {h : Int} (h1 : 1 ≤ h) : IntKind.i64.wrap ((16384 : Int).tdiv h) = 16384 / h := by
  rw [Int.tdiv_eq_ediv_of_nonneg (by decide)]
  have := Int.ediv_nonneg (a := 16384) (b := h) (by decide) (by omega)
  have h2 : 16384 / h ≤ 16384 := Int.ediv_le_self _ (by decide)
  exact fi (by omega) (by omega)
def jd (p : Ps) : Prop := 0 ≤ p.x ∧ p.x ≤ 8 ∧ 0 ≤ p.y ∧ p.y ≤ 8 ∧ (p.dx = 1 ∨ p.dx = 2 ∨ p.dx = 4 ∨ p.dx = 8) ∧ (p.dy = 1 ∨ p.dy = 2 ∨ p.dy = 4 ∨ p.dy = 8) ∧ 0 ≤ p.w ∧ p.w ≤ 256 ∧ 0 ≤ p.h ∧ p.h ≤ 256
theorem nc {w bits : Int} (hw : 0 ≤ w ∧ w ≤ 256) (hb : 0 ≤ bits ∧ bits ≤ 64) : 0 ≤ w * bits ∧ w * bits ≤ 16384 ∧ 0 ≤ dE w bits ∧ dE w bits ≤ 2048 := by
  have := Py hw hb
  unfold dE; omega
def tJ (bits : Int) (p : Ps) : Int := if 0 < p.w then p.h * (1 + dE p.w bits) else 0
theorem DB {p : Ps} {bits : Int} (hp : jd p) (hb : 0 ≤ bits ∧ bits ≤ 64) : 0 ≤ tJ bits p ∧ tJ bits p ≤ 524544 ∧ 0 ≤ p.h * (1 + dE p.w bits) ∧ p.h * (1 + dE p.w bits) ≤ 524544 := by
  obtain ⟨_, _, _, _, _, _, h1, h2, h3, h4⟩ := hp
  have hr := nc (w := p.w) ⟨h1, h2⟩ hb
  have := Py (a := p.h) (b := 1 + dE p.w bits) ⟨h3, h4⟩ (B := 2049) (by omega)
  unfold tJ
  split <;> omega
theorem og (l : List Ps) (bits : Int) : fh l bits = (l.map (tJ bits)).sum := rfl
theorem Ab : ∀ (a b : List Int), (a ++ b).sum = a.sum + b.sum
  | [], b => by simp
  | x :: a, b => by simp [Ab a b]; omega
theorem rj {l : List Ps} {bits : Int} {i : Nat} (h : i < l.length) : fh (l.take (i + 1)) bits = fh (l.take i) bits + tJ bits (l.getD i ⟨0, 0, 0, 0, 0, 0⟩) := by
  rw [og, og, List.take_succ_eq_append_getElem h, List.map_append, Ab, List.getD_eq_getElem?_getD, List.getElem?_eq_getElem h]
  simp
theorem va {l : List Ps} {bits : Int} (hb : 0 ≤ bits ∧ bits ≤ 64) (hl : ∀ p ∈ l, jd p) : 0 ≤ fh l bits ∧ fh l bits ≤ 524544 * l.length := by
  induction l with
  | nil => simp [fh]
  | cons p l ih =>
    have h1 := DB (hl p (by simp)) hb
    have h2 := ih (fun q hq => hl q (by simp [hq]))
    rw [og] at h2 ⊢
    simp only [List.map_cons, List.sum_cons, List.length_cons]
    omega
theorem Tn {p : Ps} {bits : Int} (h : 0 < p.w) : tJ bits p = p.h * (1 + dE p.w bits) := if_pos h
theorem Sw {p : Ps} {bits : Int} (h : ¬ 0 < p.w) : tJ bits p = 0 := if_neg h
theorem C5 {x y dx dy w h : Int} (hx : 0 ≤ x ∧ x ≤ 8) (hy : 0 ≤ y ∧ y ≤ 8) (hdx : dx = 1 ∨ dx = 2 ∨ dx = 4 ∨ dx = 8) (hdy : dy = 1 ∨ dy = 2 ∨ dy = 4 ∨ dy = 8) (hw : 0 ≤ w ∧ w ≤ 256) (hh : 0 ≤ h ∧ h ≤ 256) : jd (tH x y dx dy w h) := by
  have a := zB (frm := x) (e := w) hdx
  have b := zB (frm := y) (e := h) hdy
  have c := AU (frm := x) (e := w) hx.1 hw.1 hdx
  have d := AU (frm := y) (e := h) hy.1 hh.1 hdy
  exact ⟨hx.1, hx.2, hy.1, hy.2, hdx, hdy, a, Int.le_trans c hw.2, b, Int.le_trans d hh.2⟩
theorem KK {w h : Int} (hw : 0 ≤ w ∧ w ≤ 256) (hh : 0 ≤ h ∧ h ≤ 256) : ∀ p ∈ gX w h, jd p := by
  intro p hp
  simp only [gX, List.mem_cons, List.not_mem_nil, or_false] at hp
  rcases hp with rfl | rfl | rfl | rfl | rfl | rfl | rfl <;> exact C5 (by decide) (by decide) (by decide) (by decide) hw hh
theorem Gi (w h : Int) : (gX w h).length = 7 := rfl
theorem DE {w h : Int} (hw : 0 ≤ w ∧ w ≤ 256) (hh : 0 ≤ h ∧ h ≤ 256) : (∀ p ∈ eW w h, jd p) ∧ (eW w h).length ≤ 7 := ⟨fun p hp => KK hw hh p (List.mem_filter.1 hp).1, List.length_filter_le _ _⟩
theorem xB {w h : Int} (hw : 0 ≤ w ∧ w ≤ 256) (hh : 0 ≤ h ∧ h ≤ 256) : (∀ p ∈ whole w h, jd p) ∧ (whole w h).length ≤ 7 := ⟨fun p hp => by
  simp only [whole, List.mem_cons, List.not_mem_nil, or_false] at hp
  subst hp
  exact ⟨Int.le_refl _, (by decide : (0:Int) ≤ 8), Int.le_refl _, (by decide : (0:Int) ≤ 8), .inl rfl, .inl rfl, hw.1, hw.2, hh.1, hh.2⟩, by simp [whole]⟩
def pD (p : Ps) : Bool := decide (0 < p.w) && decide (0 < p.h)
def il (w h : Int) (i : Nat) : List Ps := ((gX w h).take i).filter pD
theorem Rc (w h : Int) : il w h 7 = eW w h := rfl
theorem Dq (w h : Int) : il w h 0 = [] := rfl
theorem GN (w h : Int) (i : Nat) : (il w h i).length ≤ i := by
  have h1 := List.length_filter_le pD ((gX w h).take i)
  have h2 : ((gX w h).take i).length ≤ i := by rw [List.length_take]; omega
  exact Nat.le_trans h1 h2
theorem EV {w h : Int} {i : Nat} (hi : i < 7) : il w h (i + 1) = il w h i ++ (if pD ((gX w h).getD i ⟨0, 0, 0, 0, 0, 0⟩) then [(gX w h).getD i ⟨0, 0, 0, 0, 0, 0⟩] else []) := by
  unfold il
  rw [List.take_succ_eq_append_getElem (show i < (gX w h).length from hi), List.filter_append, List.getD_eq_getElem?_getD, List.getElem?_eq_getElem (show i < (gX w h).length from hi), Option.getD_some]
  congr 1
  simp only [List.filter]
  split <;> simp_all
theorem OZ (p : Ps) : (¬ 0 < p.w ∧ pD p = false) ∨ (0 < p.w ∧ ¬ 0 < p.h ∧ pD p = false) ∨ (0 < p.w ∧ 0 < p.h ∧ pD p = true) := by
  unfold pD
  by_cases h1 : 0 < p.w
  · by_cases h2 : 0 < p.h
    · exact .inr (.inr ⟨h1, h2, by simp [h1, h2]⟩)
    · exact .inr (.inl ⟨h1, h2, by simp [h2]⟩)
  · exact .inl ⟨h1, by simp [h1]⟩
theorem Ew {w h : Int} {i : Nat} (hi : i < 7) {p : Ps} (hp : (gX w h).getD i ⟨0, 0, 0, 0, 0, 0⟩ = p) (ht : pD p = true) : il w h i ++ [p] = il w h (i + 1) := by rw [EV hi, hp, if_pos ht]
theorem Df {w h : Int} {i : Nat} (hi : i < 7) {p : Ps} (hp : (gX w h).getD i ⟨0, 0, 0, 0, 0, 0⟩ = p) (ht : pD p = false) : il w h i = il w h (i + 1) := by rw [EV hi, hp, if_neg (by rw [ht]; decide), List.append_nil]
theorem Lm {l : List Ps} (h : ∀ p ∈ l, jd p) {i : Nat} (hi : i < l.length) : jd (l.getD i ⟨0, 0, 0, 0, 0, 0⟩) := by
  rw [List.getD_eq_getElem?_getD, List.getElem?_eq_getElem hi]; exact h _ (List.getElem_mem hi)
theorem TI {step e : Int} (hs : step = 1 ∨ step = 2 ∨ step = 4 ∨ step = 8) (frm : Int) (h : e ≤ frm) : many frm step e = 0 := if_pos h
theorem IK {frm step e : Int} (h : ¬ e ≤ frm) : many frm step e = (e - frm + step - 1) / step := if_neg h
theorem many1 {e : Int} (h : 1 ≤ e) : many 0 1 e = e := by rw [IK (by omega)]; omega
end Go.aa
namespace Go.aa
open Go.af
def Yo : List Ps := [⟨0, 0, 8, 8, 0, 0⟩, ⟨4, 0, 8, 8, 0, 0⟩, ⟨0, 4, 4, 8, 0, 0⟩, ⟨2, 0, 4, 4, 0, 0⟩, ⟨0, 2, 2, 4, 0, 0⟩, ⟨1, 0, 2, 2, 0, 0⟩, ⟨0, 1, 1, 2, 0, 0⟩]
theorem su (c : Int) : (c = 0 ∧ parts c = 1) ∨ (c ≠ 0 ∧ c = 3 ∧ parts c = 1) ∨ (c ≠ 0 ∧ c ≠ 3 ∧ c = 2 ∧ parts c = 3) ∨ (c ≠ 0 ∧ c ≠ 3 ∧ c ≠ 2 ∧ c = 4 ∧ parts c = 2) ∨ (c ≠ 0 ∧ c ≠ 3 ∧ c ≠ 2 ∧ c ≠ 4 ∧ c = 6 ∧ parts c = 4) ∨ (c ≠ 0 ∧ c ≠ 3 ∧ c ≠ 2 ∧ c ≠ 4 ∧ c ≠ 6 ∧ parts c = 0) := by
  unfold parts
  by_cases h0 : c = 0
  · exact .inl ⟨h0, by simp [h0]⟩
  by_cases h3 : c = 3
  · exact .inr (.inl ⟨h0, h3, by simp [h3]⟩)
  by_cases h2 : c = 2
  · exact .inr (.inr (.inl ⟨h0, h3, h2, by simp [h2]⟩))
  by_cases h4 : c = 4
  · exact .inr (.inr (.inr (.inl ⟨h0, h3, h2, h4, by simp [h4]⟩)))
  by_cases h6 : c = 6
  · exact .inr (.inr (.inr (.inr (.inl ⟨h0, h3, h2, h4, h6, by simp [h6]⟩))))
  · exact .inr (.inr (.inr (.inr (.inr ⟨h0, h3, h2, h4, h6, by simp [h0, h3, h2, h4, h6]⟩))))
theorem Ul (c d : Int) : (c = 0 ∧ decide (deep c d) = decide (d ∈ ([1, 2, 4, 8, 16] : List Int))) ∨ (c ≠ 0 ∧ c = 3 ∧ decide (deep c d) = decide (d ∈ ([1, 2, 4, 8] : List Int))) ∨ (c ≠ 0 ∧ c ≠ 3 ∧ ¬ 0 < parts c ∧ decide (deep c d) = false) ∨ (c ≠ 0 ∧ c ≠ 3 ∧ 0 < parts c ∧ d = 8 ∧ decide (deep c d) = true) ∨ (c ≠ 0 ∧ c ≠ 3 ∧ 0 < parts c ∧ ¬ d = 8 ∧ decide (deep c d) = decide (d = 16)) := by
  by_cases h0 : c = 0
  · refine .inl ⟨h0, decide_eq_decide.2 ?_⟩
    unfold deep; simp [h0]
  by_cases h3 : c = 3
  · refine .inr (.inl ⟨h0, h3, decide_eq_decide.2 ?_⟩)
    unfold deep; simp [h3]
  by_cases hp : 0 < parts c
  · have hc : c = 2 ∨ c = 4 ∨ c = 6 := by rcases su c with h | h | h | h | h | h <;> omega
    by_cases h8 : d = 8
    · exact .inr (.inr (.inr (.inl ⟨h0, h3, hp, h8, decide_eq_true (.inr (.inr ⟨hc, .inl h8⟩))⟩)))
    · refine .inr (.inr (.inr (.inr ⟨h0, h3, hp, h8, decide_eq_decide.2 ?_⟩)))
      unfold deep
      exact ⟨fun h => by rcases h with h | h | h <;> omega, fun h => .inr (.inr ⟨hc, .inr h⟩)⟩
  · refine .inr (.inr (.inl ⟨h0, h3, hp, decide_eq_false ?_⟩))
    unfold deep
    rintro (h | h | h)
    · exact h0 h.1
    · exact h3 h.1
    · have : 0 < parts c := by rcases su c with g | g | g | g | g | g <;> omega
      exact hp this
theorem PG {l : List Int} {x : Int} {i : Nat} (h : i < l.length) (e : x = l.getD i 0) : x ∈ l := by
  rw [e, List.getD_eq_getElem?_getD, List.getElem?_eq_getElem h]; exact List.getElem_mem h
theorem LN {l : List Int} {x : Int} (h : ∀ j, j < l.length → x ≠ l.getD j 0) : x ∉ l := fun hx => by
  obtain ⟨j, hj, e⟩ := List.getElem_of_mem hx
  refine h j hj ?_
  rw [List.getD_eq_getElem?_getD, List.getElem?_eq_getElem hj]; exact e.symm
theorem Lz {l : List Int} {x r : Int} {t : Bool} (ht : t = decide (x ∈ l)) (h : 0 ≤ r ↔ x ∈ l) : decide (0 ≤ r) = t := by rw [ht]; exact decide_eq_decide.2 h
end Go.aa
namespace Go.aa
open Go.af Go.Sl
theorem NC (a b : Int) : (if a - b < b - a then b - a else a - b) = off a b := by unfold off; split <;> omega
theorem OQ (a b c : Int) : (off (a + b - c) a ≤ off (a + b - c) b ∧ off (a + b - c) a ≤ off (a + b - c) c ∧ o9 a b c = a) ∨ (off (a + b - c) a ≤ off (a + b - c) b ∧ ¬ off (a + b - c) a ≤ off (a + b - c) c ∧ off (a + b - c) b ≤ off (a + b - c) c ∧ o9 a b c = b) ∨ (off (a + b - c) a ≤ off (a + b - c) b ∧ ¬ off (a + b - c) a ≤ off (a + b - c) c ∧ ¬ off (a + b - c) b ≤ off (a + b - c) c ∧ o9 a b c = c) ∨
    (¬ off (a + b - c) a ≤ off (a + b - c) b ∧ off (a + b - c) b ≤ off (a + b - c) c ∧ o9 a b c = b) ∨ (¬ off (a + b - c) a ≤ off (a + b - c) b ∧ ¬ off (a + b - c) b ≤ off (a + b - c) c ∧ o9 a b c = c) := by
  unfold o9
  by_cases h1 : off (a + b - c) a ≤ off (a + b - c) b
  · by_cases h2 : off (a + b - c) a ≤ off (a + b - c) c
    · exact .inl ⟨h1, h2, if_pos ⟨h1, h2⟩⟩
    · rw [if_neg (fun h => h2 h.2)]
      by_cases h3 : off (a + b - c) b ≤ off (a + b - c) c
      · exact .inr (.inl ⟨h1, h2, h3, if_pos h3⟩)
      · exact .inr (.inr (.inl ⟨h1, h2, h3, if_neg h3⟩))
  · rw [if_neg (fun h => h1 h.1)]
    by_cases h3 : off (a + b - c) b ≤ off (a + b - c) c
    · exact .inr (.inr (.inr (.inl ⟨h1, h3, if_pos h3⟩)))
    · exact .inr (.inr (.inr (.inr ⟨h1, h3, if_neg h3⟩)))
def qY (l : List Int) (j : Int) : Int := if j < 0 then 0 else l.getD j.toNat 0
theorem XD (l : List Int) (j : Int) : (j < 0 ∧ qY l j = 0) ∨ (¬ j < 0 ∧ (l.length : Int) ≤ j ∧ qY l j = 0) ∨ (¬ j < 0 ∧ ¬ (l.length : Int) ≤ j ∧ qY l j = l.getD j.toNat 0) := by
  unfold qY
  by_cases h1 : j < 0
  · exact .inl ⟨h1, if_pos h1⟩
  rw [if_neg h1]
  by_cases h2 : (l.length : Int) ≤ j
  · refine .inr (.inl ⟨h1, h2, ?_⟩)
    rw [List.getD_eq_getElem?_getD, List.getElem?_eq_none (by omega)]; rfl
  · exact .inr (.inr ⟨h1, h2, rfl⟩)
theorem Fk (l : List Int) (i back : Nat) : qY l ((i : Int) - (back : Int)) = gz l i back := by
  unfold qY gz
  by_cases h : i < back
  · rw [if_pos (by omega), if_pos h]
  · rw [if_neg (by omega), if_neg h, show ((i : Int) - (back : Int)).toNat = i - back by omega]
theorem Kb (l : List Int) (i : Nat) : qY l (i : Int) = l.getD i 0 := by
  unfold qY; rw [if_neg (by omega), Int.toNat_natCast]
theorem OW (kind a b c : Int) : (kind = 1 ∧ ly kind a b c = a) ∨ (kind ≠ 1 ∧ kind = 2 ∧ ly kind a b c = b) ∨ (kind ≠ 1 ∧ kind ≠ 2 ∧ kind = 3 ∧ ly kind a b c = (a + b) / 2) ∨ (kind ≠ 1 ∧ kind ≠ 2 ∧ kind ≠ 3 ∧ kind = 4 ∧ ly kind a b c = o9 a b c) ∨ (kind ≠ 1 ∧ kind ≠ 2 ∧ kind ≠ 3 ∧ kind ≠ 4 ∧ ly kind a b c = 0) := by
  unfold ly
  by_cases h1 : kind = 1
  · exact .inl ⟨h1, if_pos h1⟩
  rw [if_neg h1]
  by_cases h2 : kind = 2
  · exact .inr (.inl ⟨h1, h2, if_pos h2⟩)
  rw [if_neg h2]
  by_cases h3 : kind = 3
  · exact .inr (.inr (.inl ⟨h1, h2, h3, if_pos h3⟩))
  rw [if_neg h3]
  by_cases h4 : kind = 4
  · exact .inr (.inr (.inr (.inl ⟨h1, h2, h3, h4, if_pos h4⟩)))
  · exact .inr (.inr (.inr (.inr ⟨h1, h2, h3, h4, if_neg h4⟩)))
theorem I7 {l : List Int} {i back : Nat} (h : i < back) : gz l i back = 0 := if_pos h
theorem Ie {l : List Int} {i back : Nat} (h : back ≤ i) : gz l i back = l.getD ((i : Int) - (back : Int)).toNat 0 := by
  unfold gz; rw [if_neg (by omega), show ((i : Int) - (back : Int)).toNat = i - back by omega]
theorem Mt (i back : Nat) : gz [] i back = 0 := by unfold gz; split <;> rfl
def iK (kind : Int) (row above : List Int) (back i : Nat) : List Int := gp kind row above back i ++ List.replicate (row.length - i) 0
theorem FU {kind : Int} {row above : List Int} {back i : Nat} (h : i ≤ row.length) : (iK kind row above back i).length = row.length := by
  unfold iK; rw [List.length_append, me, List.length_replicate]; omega
theorem PZ (kind : Int) (row above : List Int) (back : Nat) : iK kind row above back 0 = List.replicate row.length 0 := by simp [iK, gp]
theorem GP (kind : Int) (row above : List Int) (back : Nat) : iK kind row above back row.length = eB kind row above back := by simp [iK, eB]
theorem G8 {kind : Int} {row above : List Int} {back i : Nat} : an (iK kind row above back i) := fun x hx => by
  rcases List.mem_append.1 hx with h | h
  · exact rE kind row above back i x h
  · rw [List.eq_of_mem_replicate h]; decide
theorem Al {a : List Int} {x v : Int} {b : List Int} {i : Nat} (ha : a.length = i) : (a ++ x :: b).set i v = a ++ v :: b := by
  subst ha; rw [List.set_append_right _ _ (Nat.le_refl _), Nat.sub_self]; rfl
theorem Ha {kind : Int} {row above : List Int} {back i : Nat} (h : i < row.length) : (iK kind row above back i).set i (iL kind row above back (gp kind row above back i) i) = iK kind row above back (i + 1) := by
  unfold iK
  rw [show row.length - i = (row.length - (i + 1)) + 1 by omega, List.replicate_succ, Al (me ..), gp, List.append_assoc]
  rfl
theorem KY {kind : Int} {row above : List Int} {back i : Nat} (hb : 0 < back) : gz (iK kind row above back i) i back = gz (gp kind row above back i) i back := P1 (me ..) hb
def WL (kind : Int) (row above : List Int) (back i : Nat) : List Int := gp kind row above back i ++ row.drop i
theorem Kg {kind : Int} {row above : List Int} {back i : Nat} {x y : Int} (hx : x = row.getD i 0) (hy : y = ly kind (gz (gp kind row above back i) i back) (above.getD i 0) (gz above i back)) : (x + y) % 256 = iL kind row above back (gp kind row above back i) i := by rw [hx, hy]; rfl
end Go.aa
namespace Go.aa
open Go.af Go.Sl
theorem uK (B : List Int) (a : Nat) {n : Nat} (hn : n ≤ 24) : 0 ≤ bO B a n ∧ bO B a n < 16777216 := by
  have h := lA B a n
  have h2 : (2 : Nat) ^ n ≤ 2 ^ 24 := Nat.pow_le_pow_right (by decide) hn
  have h3 : (2 : Int) ^ n = ((2 ^ n : Nat) : Int) := by simp
  rw [h3] at h
  omega
theorem Ui {B : List Int} {a k : Nat} (hk : k ≤ 24) : IntKind.i64.wrap (bO B a k * 2 ^ (min (1 : Int).toNat IntKind.i64.bits)) = 2 * bO B a k := by
  have h := uK B a hk
  exact Ph h.1 (by omega)
theorem Y6 {B : List Int} {a k : Nat} (hk : k ≤ 24) : IntKind.i64.wrap ((BitVec.ofInt IntKind.i64.bits (2 * bO B a k) ||| BitVec.ofInt IntKind.i64.bits (fK B (a + k))).toNat : Int) = bO B a (k + 1) := by
  have h := uK B a hk
  rw [D1 h.1 (by omega) (qI _ _)]
  rfl
def im (d : Int) : Prop := d = 1 ∨ d = 2 ∨ d = 4 ∨ d = 8 ∨ d = 16
def up (d v : Int) : Int := v * (65535 / (2 ^ d.toNat - 1))
theorem lM {d : Int} (h : im d) : (2 : Int) ≤ 2 ^ d.toNat ∧ (2 : Int) ^ d.toNat ≤ 65536 := by rcases h with rfl | rfl | rfl | rfl | rfl <;> decide
theorem iT {d : Int} (h : im d) : 1 ≤ d ∧ d ≤ 16 := by rcases h with rfl | rfl | rfl | rfl | rfl <;> decide
theorem AH {d : Int} (h : im d) : IntKind.i64.wrap (1 * 2 ^ (min d.toNat IntKind.i64.bits)) = 2 ^ d.toNat := by rcases h with rfl | rfl | rfl | rfl | rfl <;> decide
theorem gm {c d : Int} (h : deep c d) : im d := by
  unfold deep at h
  unfold im
  omega
theorem ld {c d : Int} (h : deep c d) : 1 ≤ parts c ∧ parts c ≤ 4 ∧ 1 ≤ parts c * d ∧ parts c * d ≤ 64 := by
  unfold deep at h
  rcases h with ⟨rfl, h⟩ | ⟨rfl, h⟩ | ⟨rfl | rfl | rfl, h⟩
  · rw [show parts 0 = 1 from rfl]; omega
  · rw [show parts 3 = 1 from rfl]; omega
  · rw [show parts 2 = 3 from rfl]; omega
  · rw [show parts 4 = 2 from rfl]; omega
  · rw [show parts 6 = 4 from rfl]; omega
theorem BW {d v : Int} (h : im d) (h0 : 0 ≤ v) (h1 : v < 2 ^ d.toNat) : 0 ≤ up d v ∧ up d v ≤ 65535 := by
  unfold up
  rcases h with rfl | rfl | rfl | rfl | rfl
  · have : v < 2 := h1; simp; omega
  · have : v < 4 := h1; simp; omega
  · have : v < 16 := h1; simp; omega
  · have : v < 256 := h1; simp; omega
  · have : v < 65536 := h1; simp; omega
theorem up_mul {d v P : Int} (hP : P = 2 ^ d.toNat) (h : im d) (h0 : 0 ≤ v) (h1 : v < P) : IntKind.i64.wrap (v * (65535 / (P - 1))) = up d v := by
  subst hP
  have := BW h h0 h1
  unfold up at this ⊢
  exact fi (by omega) (by omega)
theorem D4 {n : Int} (h : 0 ≤ n ∧ n ≤ 65535) : IntKind.u16.wrap n = n := by
  have : IntKind.u16.wrap n = n % 65536 := rfl
  omega
theorem Ze (x : Int) : up 8 x = x * 257 := by unfold up; rfl
theorem LD {d : Int} (h : im d) : d = 1 ∨ (d ≠ 1 ∧ d = 2) ∨ (d ≠ 1 ∧ d ≠ 2 ∧ d = 4) ∨ (d ≠ 1 ∧ d ≠ 2 ∧ d ≠ 4 ∧ d = 8) ∨ (d ≠ 1 ∧ d ≠ 2 ∧ d ≠ 4 ∧ d ≠ 8 ∧ d = 16) := by
  unfold im at h
  omega
theorem wz {w h x y : Int} (hx : 0 ≤ x ∧ x < w) (hy : 0 ≤ y ∧ y < h) : 0 ≤ y * w ∧ 0 ≤ y * w + x ∧ y * w + x + 1 ≤ w * h := by
  have h1 : 0 ≤ y * w := Int.mul_nonneg hy.1 (by omega)
  have h2 : (y + 1) * w ≤ h * w := Int.mul_le_mul_of_nonneg_right (by omega) (by omega)
  rw [Int.add_mul, Int.one_mul, Int.mul_comm h w] at h2
  omega
def Z7 (w : Int) (bN : List Int) (x y : Int) : List Int := (bN.drop (4 * (y * w + x)).toNat).take 4
theorem GG {w : Int} {bN : List Int} {x y : Int} {c : List Int} (hc : c.length = 4) (h : (4 * (y * w + x)).toNat + 4 ≤ bN.length) : (kN w bN x y c).length = bN.length := by
  simp [kN, hc]
  omega
def jj (w1 h1 : Int) (n1 : Nat) (w2 h2 : Int) (n2 : Nat) (L1 L2 : List Int) : Prop := (aW w1 h1 = 0 ∧ (n1 : Int) = 4 * w1 * h1) ∧ (aW w2 h2 = 0 ∧ (n2 : Int) = 4 * w2 * h2) ∧ w1 = w2 ∧ h1 = h2 ∧ L1 = L2
theorem TB (w1 h1 : Int) (n1 : Nat) (w2 h2 : Int) (n2 : Nat) (L1 L2 : List Int) :
    (¬ (aW w1 h1 = 0 ∧ (n1 : Int) = 4 * w1 * h1) ∧ ¬ jj w1 h1 n1 w2 h2 n2 L1 L2) ∨
    ((aW w1 h1 = 0 ∧ (n1 : Int) = 4 * w1 * h1) ∧ ¬ (aW w2 h2 = 0 ∧ (n2 : Int) = 4 * w2 * h2) ∧ ¬ jj w1 h1 n1 w2 h2 n2 L1 L2) ∨
    ((aW w1 h1 = 0 ∧ (n1 : Int) = 4 * w1 * h1) ∧ (aW w2 h2 = 0 ∧ (n2 : Int) = 4 * w2 * h2) ∧ w1 ≠ w2 ∧ ¬ jj w1 h1 n1 w2 h2 n2 L1 L2) ∨
    ((aW w1 h1 = 0 ∧ (n1 : Int) = 4 * w1 * h1) ∧ (aW w2 h2 = 0 ∧ (n2 : Int) = 4 * w2 * h2) ∧ w1 = w2 ∧ h1 ≠ h2 ∧ ¬ jj w1 h1 n1 w2 h2 n2 L1 L2) ∨
    ((aW w1 h1 = 0 ∧ (n1 : Int) = 4 * w1 * h1) ∧ (aW w2 h2 = 0 ∧ (n2 : Int) = 4 * w2 * h2) ∧ w1 = w2 ∧ h1 = h2 ∧ n1 = n2) := by
  by_cases a : (aW w1 h1 = 0 ∧ (n1 : Int) = 4 * w1 * h1)
  · by_cases b : (aW w2 h2 = 0 ∧ (n2 : Int) = 4 * w2 * h2)
    · by_cases c : w1 = w2
      · by_cases d : h1 = h2
        · exact .inr (.inr (.inr (.inr ⟨a, b, c, d, by subst c; subst d; omega⟩)))
        · exact .inr (.inr (.inr (.inl ⟨a, b, c, d, fun h => d h.2.2.2.1⟩)))
      · exact .inr (.inr (.inl ⟨a, b, c, fun h => c h.2.2.1⟩))
    · exact .inr (.inl ⟨a, b, fun h => b h.2.1⟩)
  · exact .inl ⟨a, fun h => a h.1⟩
theorem Jg {L1 L2 : List Int} {i : Nat} (h : L1.getD i 0 ≠ L2.getD i 0) : L1 ≠ L2 := fun e => h (by rw [e])
theorem CR {L1 L2 : List Int} (hl : L1.length = L2.length) (h : ∀ j, j < L1.length → L1.getD j 0 = L2.getD j 0) : L1 = L2 := by
  refine List.ext_getElem hl fun j h1 h2 => ?_
  have := h j h1
  rwa [List.getD_eq_getElem?_getD, List.getD_eq_getElem?_getD, List.getElem?_eq_getElem h1, List.getElem?_eq_getElem h2] at this
end Go.aa
namespace Go.aa
open Go.af Go.Sl
theorem fG (l : List Int) (n i : Nat) : (l.drop n).getD i 0 = l.getD (n + i) 0 := by simp [List.getD_eq_getElem?_getD, List.getElem?_drop]
theorem Rx {B : List Int} (hB : an B) (j : Nat) : bO B (8 * j) 16 * 65536 + bO B (8 * j + 16) 16 = aG.cZ (B.drop j) := by
  rw [qG (hB.get _) (hB.get _), show 8 * j + 16 = 8 * (j + 2) by omega, qG (hB.get _) (hB.get _)]
  unfold aG.cZ
  rw [fG, fG, fG, fG]
  simp only [Nat.add_zero]
  rw [show j + 2 + 1 = j + 3 from rfl]
  omega
theorem Bi (B : List Int) (a : Nat) : 0 ≤ bO B a 16 ∧ bO B a 16 < 65536 := by have := lA B a 16; omega
def D5 (B : List Int) (a : Nat) : Nat → Int
  | 0 => 0
  | n + 1 => D5 B a n * 256 + B.getD (a + n) 0
def N0 (B : List Int) : Hd := if eJ B = 0 then aL B else ⟨0, 0, 0, 0, false⟩
theorem vQ {B : List Int} (h : eJ B = 0) : N0 B = aL B := if_pos h
theorem nJ {B : List Int} {e : Int} (h : eJ B = e) (he : e ≠ 0) : N0 B = ⟨0, 0, 0, 0, false⟩ := if_neg (by rw [h]; exact he)
theorem Av (B : List Int) : (B.length ≠ 13 ∧ eJ B = 4) ∨
    (¬ B.length ≠ 13 ∧ ¬ deep (aL B).ar (aL B).dep ∧ eJ B = 4) ∨
    (¬ B.length ≠ 13 ∧ deep (aL B).ar (aL B).dep ∧ 0 < B.getD 10 0 + B.getD 11 0 ∧ eJ B = 4) ∨
    (¬ B.length ≠ 13 ∧ deep (aL B).ar (aL B).dep ∧ ¬ 0 < B.getD 10 0 + B.getD 11 0 ∧ 1 < B.getD 12 0 ∧ eJ B = 4) ∨
    (¬ B.length ≠ 13 ∧ deep (aL B).ar (aL B).dep ∧ ¬ 0 < B.getD 10 0 + B.getD 11 0 ∧ ¬ 1 < B.getD 12 0 ∧ (aL B).w = 0 ∧ eJ B = 4) ∨
    (¬ B.length ≠ 13 ∧ deep (aL B).ar (aL B).dep ∧ ¬ 0 < B.getD 10 0 + B.getD 11 0 ∧ ¬ 1 < B.getD 12 0 ∧ ¬ (aL B).w = 0 ∧ (aL B).h = 0 ∧ eJ B = 4) ∨
    (¬ B.length ≠ 13 ∧ deep (aL B).ar (aL B).dep ∧ ¬ 0 < B.getD 10 0 + B.getD 11 0 ∧ ¬ 1 < B.getD 12 0 ∧ ¬ (aL B).w = 0 ∧ ¬ (aL B).h = 0 ∧ aW (aL B).w (aL B).h ≠ 0 ∧ eJ B = 6) ∨
    (¬ B.length ≠ 13 ∧ deep (aL B).ar (aL B).dep ∧ ¬ 0 < B.getD 10 0 + B.getD 11 0 ∧ ¬ 1 < B.getD 12 0 ∧ ¬ (aL B).w = 0 ∧ ¬ (aL B).h = 0 ∧ ¬ aW (aL B).w (aL B).h ≠ 0 ∧ eJ B = 0) := by
  unfold eJ
  by_cases h0 : B.length ≠ 13
  · exact .inl ⟨h0, if_pos h0⟩
  refine .inr ?_
  rw [if_neg h0]
  by_cases h1 : deep (aL B).ar (aL B).dep
  case neg => exact .inl ⟨h0, h1, if_pos (.inl h1)⟩
  refine .inr ?_
  by_cases h2 : 0 < B.getD 10 0 + B.getD 11 0
  · exact .inl ⟨h0, h1, h2, if_pos (.inr (.inl h2))⟩
  refine .inr ?_
  by_cases h3 : 1 < B.getD 12 0
  · exact .inl ⟨h0, h1, h2, h3, if_pos (.inr (.inr (.inl h3)))⟩
  refine .inr ?_
  by_cases h4 : (aL B).w = 0
  · exact .inl ⟨h0, h1, h2, h3, h4, if_pos (.inr (.inr (.inr (.inl h4))))⟩
  refine .inr ?_
  by_cases h5 : (aL B).h = 0
  · exact .inl ⟨h0, h1, h2, h3, h4, h5, if_pos (.inr (.inr (.inr (.inr h5))))⟩
  refine .inr ?_
  rw [if_neg (fun h => by
    rcases h with h | h | h | h | h
    · exact h h1
    · exact h2 h
    · exact h3 h
    · exact h4 h
    · exact h5 h)]
  by_cases h6 : aW (aL B).w (aL B).h = 0
  · exact .inr ⟨h0, h1, h2, h3, h4, h5, fun h => h h6, if_pos h6⟩
  · exact .inl ⟨h0, h1, h2, h3, h4, h5, h6, if_neg h6⟩
def Wx (c d : Int) : Prop := if c = 0 then d = 1 ∨ d = 2 ∨ d = 4 ∨ d = 8 ∨ d = 16 else if c = 2 ∨ c = 4 ∨ c = 6 then d = 8 ∨ d = 16 else if c = 3 then d = 1 ∨ d = 2 ∨ d = 4 ∨ d = 8 else d = 8
instance (c d : Int) : Decidable (Wx c d) := by unfold Wx; infer_instance
theorem LP {L : List Int} {c : Ch} (hL : an L) (h : first L = .ok c) : an c.k ∧ c.k.length < 500000000 := by
  unfold first at h
  split at h
  · cases h
  · split at h
    · cases h
    · split at h
      · cases h
      · split at h
        · cases h
          exact ⟨fun x hx => hL x (List.mem_of_mem_drop (List.mem_of_mem_take hx)), by simp only [List.length_take]; omega⟩
        · cases h
theorem C7 : ∀ {f : Nat} {L : List Int} {a l : List Ch}, an L → (∀ c ∈ a, an c.k ∧ c.k.length < 500000000) → fy f L a = .ok l → ∀ c ∈ l, an c.k ∧ c.k.length < 500000000
  | 0, L, a, l, _, _, h => by cases h
  | f + 1, L, a, l, hL, ha, h => by
    rw [fy] at h
    split at h
    · cases h
    · rename_i c hc
      have hd := LP hL hc
      have ha2 : ∀ y ∈ a ++ [c], an y.k ∧ y.k.length < 500000000 := fun y hy => by
        rcases List.mem_append.1 hy with hy | hy
        · exact ha y hy
        · rw [List.mem_singleton.1 hy]; exact hd
      split at h
      · split at h
        · cases h; exact ha2
        · cases h
      · exact C7 (fun x hx => hL x (List.mem_of_mem_drop hx)) ha2 h
theorem Tq {B : List Int} {l : List Ch} (hB : an B) (h : cut B = .ok l) : ∀ c ∈ l, an c.k ∧ c.k.length < 500000000 := by
  unfold cut at h
  split at h
  · cases h
  · split at h
    · cases h
    · split at h
      · exact C7 (fun x hx => hB x (List.mem_of_mem_drop hx)) (fun c hc => by cases hc) h
      · cases h
def ja (l : List Ch) : Nat := (l.map (·.d.length)).sum
theorem Hs (a : List Ch) (c : Ch) : ja (a ++ [c]) = ja a + c.d.length := by simp [ja]
theorem GL {L : List Int} {c : Ch} (h : first L = .ok c) : 12 + c.d.length ≤ L.length := by
  unfold first at h
  split at h
  · cases h
  · rename_i h12
    split at h
    · cases h
    · split at h
      · cases h
      · rename_i h3
        split at h
        · cases h
          simp only [List.length_take, List.length_drop]
          omega
        · cases h
theorem wV : ∀ {f : Nat} {L : List Int} {a l : List Ch}, fy f L a = .ok l → ja l ≤ ja a + L.length
  | 0, L, a, l, h => by cases h
  | f + 1, L, a, l, h => by
    rw [fy] at h
    split at h
    · cases h
    · rename_i c hc
      have hd := GL hc
      have hs := Hs a c
      split at h
      · split at h
        · cases h; omega
        · cases h
      · have := wV h
        rw [List.length_drop] at this
        omega
theorem uO {B : List Int} {l : List Ch} (h : cut B = .ok l) : ja l ≤ B.length := by
  unfold cut at h
  split at h
  · cases h
  · split at h
    · cases h
    · split at h
      · have := wV h
        rw [List.length_drop] at this
        have e0 : ja [] = 0 := rfl
        omega
      · cases h
theorem ng : ∀ l : List Ch, (bW l).length ≤ ja l
  | [] => by simp [bW, ja]
  | c :: l => by
    have ih := ng l
    unfold bW at ih ⊢
    rw [List.filter_cons]
    have e : ja (c :: l) = c.d.length + ja l := by simp [ja]
    split
    · simp only [List.flatMap_cons, List.length_append]; omega
    · omega
theorem lJ {l : List Ch} {k : List Int} : (bC l k).length ≤ ja l := by
  unfold bC
  split
  · rename_i c hc
    have hm := List.mem_of_find?_eq_some hc
    unfold ja
    clear hc
    induction l with
    | nil => cases hm
    | cons a l ih =>
      rw [List.map_cons, List.sum_cons]
      rcases List.mem_cons.1 hm with rfl | hm
      · omega
      · have := ih hm; omega
  · simp
end Go.aa
namespace Go.aa
open Go.af Go.Sl
theorem Zi {B : List Int} (h0 : ¬ B.length ≠ 13) :
    (¬ B.length ≠ 13 ∧ ¬ deep (aL B).ar (aL B).dep ∧ eJ B = 4) ∨
    (¬ B.length ≠ 13 ∧ deep (aL B).ar (aL B).dep ∧ 0 < B.getD 10 0 + B.getD 11 0 ∧ eJ B = 4) ∨
    (¬ B.length ≠ 13 ∧ deep (aL B).ar (aL B).dep ∧ ¬ 0 < B.getD 10 0 + B.getD 11 0 ∧ 1 < B.getD 12 0 ∧ eJ B = 4) ∨
    (¬ B.length ≠ 13 ∧ deep (aL B).ar (aL B).dep ∧ ¬ 0 < B.getD 10 0 + B.getD 11 0 ∧ ¬ 1 < B.getD 12 0 ∧ (aL B).w = 0 ∧ eJ B = 4) ∨
    (¬ B.length ≠ 13 ∧ deep (aL B).ar (aL B).dep ∧ ¬ 0 < B.getD 10 0 + B.getD 11 0 ∧ ¬ 1 < B.getD 12 0 ∧ ¬ (aL B).w = 0 ∧ (aL B).h = 0 ∧ eJ B = 4) ∨
    (¬ B.length ≠ 13 ∧ deep (aL B).ar (aL B).dep ∧ ¬ 0 < B.getD 10 0 + B.getD 11 0 ∧ ¬ 1 < B.getD 12 0 ∧ ¬ (aL B).w = 0 ∧ ¬ (aL B).h = 0 ∧ aW (aL B).w (aL B).h ≠ 0 ∧ eJ B = 6) ∨
    (¬ B.length ≠ 13 ∧ deep (aL B).ar (aL B).dep ∧ ¬ 0 < B.getD 10 0 + B.getD 11 0 ∧ ¬ 1 < B.getD 12 0 ∧ ¬ (aL B).w = 0 ∧ ¬ (aL B).h = 0 ∧ ¬ aW (aL B).w (aL B).h ≠ 0 ∧ eJ B = 0) := (Av B).resolve_left (fun h => h0 h.1)
theorem A6 {x : Int} (h : 0 ≤ x ∧ x < 256) : IntKind.i64.wrap x = x := fi (by omega) (by omega)
theorem CB {B : List Int} (h : B.length ≠ 13) : eJ B = 4 := by unfold eJ; rw [if_pos h]
instance (w1 h1 : Int) (n1 : Nat) (w2 h2 : Int) (n2 : Nat) (L1 L2 : List Int) : Decidable (jj w1 h1 n1 w2 h2 n2 L1 L2) := by unfold jj; infer_instance
end Go.aa
namespace Go.aa
open Go.af Go.Sl
def kU (l : List Ch) (k : List Int) : List Int := l.foldl (fun d c => if c.k = k then c.d else d) []
theorem mD {L : List Ch} {i : Nat} {x : Ch} (h : L[i]? = some x) : L.take (i + 1) = L.take i ++ [x] := by
  rw [List.take_add_one, h]; rfl
theorem kd {L : List Ch} {i : Nat} {x : Ch} {k : List Int} (h : L[i]? = some x) : kU (L.take (i + 1)) k = if x.k = k then x.d else kU (L.take i) k := by
  rw [mD h]; simp [kU]
theorem kW {L : List Ch} {i : Nat} {x : Ch} {k : List Int} (h : L[i]? = some x) : dV (L.take (i + 1)) k = (dV (L.take i) k || (x.k == k)) := by
  rw [mD h]; simp [dV]
theorem sW {L : List Ch} {i : Nat} {x : Ch} (h : L[i]? = some x) : bW (L.take (i + 1)) = if x.k = aZ then bW (L.take i) ++ x.d else bW (L.take i) := by
  rw [mD h]
  unfold bW
  rw [List.filter_append, List.flatMap_append, List.filter_cons, List.filter_nil]
  by_cases hk : x.k = aZ
  · simp [hk]
  · simp [hk]
theorem xD (L : List Ch) (i : Nat) : ja (L.take i) ≤ ja L := by
  conv => rhs; rw [← List.take_append_drop i L]
  unfold ja
  rw [List.map_append, List.sum_append]
  omega
theorem Hy : aT ≠ aQ := by decide
theorem O7 : aT ≠ aZ := by decide
theorem L4 : aQ ≠ aZ := by decide
def cnt (k : List Int) (l : List Ch) : Nat := (l.filter fun c => c.k == k).length
theorem vU (k : List Int) (c : Ch) (l : List Ch) : cnt k (c :: l) = (if c.k = k then 1 else 0) + cnt k l := by
  unfold cnt
  rw [List.filter_cons]
  by_cases h : c.k = k
  · simp [h]; omega
  · simp [h]
theorem uY {k : List Int} : ∀ {l : List Ch} {d : List Int}, cnt k l = 0 → l.foldl (fun d c => if c.k = k then c.d else d) d = d
  | [], d, _ => rfl
  | c :: l, d, h => by
    rw [vU] at h
    have hc : c.k ≠ k := fun e => by rw [if_pos e] at h; omega
    rw [List.foldl_cons, if_neg hc]
    exact uY (by omega)
theorem uj {k : List Int} : ∀ {l : List Ch}, cnt k l ≤ 1 → kU l k = bC l k
  | [], _ => rfl
  | c :: l, h => by
    rw [vU] at h
    unfold kU bC
    rw [List.foldl_cons, List.find?_cons]
    by_cases hc : c.k = k
    · rw [if_pos hc] at h ⊢
      rw [uY (by omega)]
      simp [hc]
    · rw [if_neg hc] at h ⊢
      have := uj (k := k) (l := l) (by omega)
      unfold kU bC at this
      have hb : (c.k == k) = false := beq_false_of_ne hc
      simp only [hb, if_neg hc, this]
theorem DW {n i : Nat} {prev : List Int} {c : Ch} {s s2 : Od} (h : dv n i prev c s = some s2) : s2.gT = s.gT + (if c.k = aT then 1 else 0) ∧ s2.fH = s.fH + (if c.k = aQ then 1 else 0) := by
  have d1 : bR ≠ aT := by decide
  have d2 : bR ≠ aQ := by decide
  have d3 : aY ≠ aT := by decide
  have d4 : aY ≠ aQ := by decide
  have d5 : aZ ≠ aT := by decide
  have d6 : aZ ≠ aQ := by decide
  have d7 : aT ≠ aQ := by decide
  unfold dv at h
  split at h
  · rename_i hk
    rw [hk, if_neg d1, if_neg d2]
    split at h
    · cases h
    · cases h; exact ⟨rfl, rfl⟩
  · split at h
    · rename_i hk
      rw [hk, if_neg d3, if_neg d4]
      split at h
      · cases h
      · cases h; exact ⟨rfl, rfl⟩
    · split at h
      · rename_i hk
        rw [hk, if_neg d5, if_neg d6]
        split at h
        · cases h
        · cases h; exact ⟨rfl, rfl⟩
      · split at h
        · rename_i hk
          rw [hk, if_pos rfl, if_neg d7]
          split at h
          · cases h
          · cases h; exact ⟨rfl, rfl⟩
        · rename_i hp
          split at h
          · rename_i hk
            rw [if_neg hp, if_pos hk]
            split at h
            · cases h
            · cases h; exact ⟨rfl, rfl⟩
          · rename_i hk
            rw [if_neg hp, if_neg hk]
            split at h
            · cases h
            · cases h; exact ⟨rfl, rfl⟩
theorem zK {n : Nat} : ∀ {l : List Ch} {i : Nat} {prev : List Int} {s : Od}, kA n i prev l s = true → s.gT + cnt aT l ≤ 1 ∧ s.fH + cnt aQ l ≤ 1
  | [], i, prev, s, h => by
    rw [kA] at h
    unfold sd at h
    simp only [Bool.and_eq_true, decide_eq_true_eq] at h
    exact ⟨h.1.2, h.2⟩
  | c :: l, i, prev, s, h => by
    rw [kA] at h
    split at h
    · cases h
    · rename_i s2 hs
      have ih := zK h
      obtain ⟨e1, e2⟩ := DW hs
      rw [vU, vU]
      omega
theorem Fw {l : List Ch} (h : cJ l = true) : kU l aT = bC l aT ∧ kU l aQ = bC l aQ := by
  rw [← Ky] at h
  have := zK h
  exact ⟨uj (by omega), uj (by omega)⟩
theorem vZ {l : List Ch} (h : cJ l = true) : 3 ≤ l.length := by
  unfold cJ at h
  simp only [Bool.and_eq_true, decide_eq_true_eq] at h
  exact h.1.1.1.1.1
theorem wx {k : List Int} : ∀ {L : List Ch} {i : Nat} {x : Ch}, L[i]? = some x → x.k = k → (∀ j, j < i → ∀ c, L[j]? = some c → c.k ≠ k) → bC L k = x.d ∧ dV L k = true
  | [], i, x, h, _, _ => by simp at h
  | c :: L, 0, x, h, hk, _ => by
    simp only [List.getElem?_cons_zero, Option.some.injEq] at h
    subst h
    simp [bC, dV, hk]
  | c :: L, i + 1, x, h, hk, hall => by
    simp only [List.getElem?_cons_succ] at h
    have hc := hall 0 (by omega) c rfl
    have := wx h hk (fun j hj y hy => hall (j + 1) (by omega) y (by simpa using hy))
    unfold bC dV at this ⊢
    have hb : (c.k == k) = false := beq_false_of_ne hc
    simp only [List.find?_cons, List.any_cons, hb, Bool.false_or, this]
    exact ⟨trivial, trivial⟩
theorem wX {k : List Int} : ∀ {L : List Ch}, (∀ j, j < L.length → ∀ c, L[j]? = some c → c.k ≠ k) → bC L k = [] ∧ dV L k = false
  | [], _ => ⟨rfl, rfl⟩
  | c :: L, hall => by
    have hc := hall 0 (by simp) c rfl
    have := wX (k := k) (L := L) (fun j hj y hy => hall (j + 1) (by simp; omega) y (by simpa using hy))
    unfold bC dV at this ⊢
    have hb : (c.k == k) = false := beq_false_of_ne hc
    simp only [List.find?_cons, List.any_cons, hb, Bool.false_or, this]
    exact ⟨trivial, trivial⟩
theorem nu {k : List Int} {L : List Ch} (h : dV L k = false) : bC L k = [] := by
  unfold dV at h
  unfold bC
  have : L.find? (fun c => c.k == k) = none := by
    rw [List.find?_eq_none]
    intro c hc hk
    rw [List.any_eq_false] at h
    exact h c hc hk
  rw [this]
def ir (h : Hd) (plte : List Int) (has : Bool) : Prop := if has then ¬ (h.ar = 0 ∨ h.ar = 4) ∧ (h.ar = 3 → (plte.length : Int) / 3 ≤ 2 ^ h.dep.toNat) ∧ plte.length % 3 = 0 ∧ 0 < plte.length ∧ plte.length / 3 ≤ 256 else h.ar ≠ 3
def iO (h : Hd) (plte trns : List Int) (is : Bool) : Prop := is = true → (h.ar = 3 ∧ trns.length ≤ plte.length / 3) ∨ (h.ar = 0 ∧ trns.length = 2) ∨ (h.ar = 2 ∧ trns.length = 6)
instance (h : Hd) (plte : List Int) (has : Bool) : Decidable (ir h plte has) := by unfold ir; infer_instance
instance (h : Hd) (plte trns : List Int) (is : Bool) : Decidable (iO h plte trns is) := by unfold iO; infer_instance
theorem NA (h : Hd) (plte : List Int) : ir h plte false ↔ h.ar ≠ 3 := Iff.rfl
theorem MU {h : Hd} {plte : List Int} {P : Int} (hP : P = 2 ^ h.dep.toNat) : (h.ar = 0 ∧ ¬ ir h plte true) ∨ (¬ h.ar = 0 ∧ h.ar = 4 ∧ ¬ ir h plte true) ∨
    (¬ h.ar = 0 ∧ ¬ h.ar = 4 ∧ h.ar = 3 ∧ P < (plte.length : Int) / 3 ∧ ¬ ir h plte true) ∨
    (¬ h.ar = 0 ∧ ¬ h.ar = 4 ∧ h.ar = 3 ∧ ¬ P < (plte.length : Int) / 3 ∧ (ir h plte true ↔ plte.length % 3 = 0 ∧ 0 < plte.length ∧ plte.length / 3 ≤ 256)) ∨
    (¬ h.ar = 0 ∧ ¬ h.ar = 4 ∧ ¬ h.ar = 3 ∧ (ir h plte true ↔ plte.length % 3 = 0 ∧ 0 < plte.length ∧ plte.length / 3 ≤ 256)) := by
  subst hP
  unfold ir
  simp only [if_true]
  by_cases h0 : h.ar = 0
  · exact .inl ⟨h0, fun hh => hh.1 (.inl h0)⟩
  · by_cases h4 : h.ar = 4
    · exact .inr (.inl ⟨h0, h4, fun hh => hh.1 (.inr h4)⟩)
    · by_cases h3 : h.ar = 3
      · by_cases hp : (2 : Int) ^ h.dep.toNat < (plte.length : Int) / 3
        · exact .inr (.inr (.inl ⟨h0, h4, h3, hp, fun hh => Int.not_lt.2 (hh.2.1 h3) hp⟩))
        · exact .inr (.inr (.inr (.inl ⟨h0, h4, h3, hp, ⟨fun hh => hh.2.2, fun hh => ⟨fun h => h.elim h0 h4, fun _ => Int.not_lt.1 hp, hh⟩⟩⟩)))
      · exact .inr (.inr (.inr (.inr ⟨h0, h4, h3, ⟨fun hh => hh.2.2, fun hh => ⟨fun h => h.elim h0 h4, fun h => absurd h h3, hh⟩⟩⟩)))
theorem R5 (n : Nat) : (¬ n % 3 = 0) ∨ (n % 3 = 0 ∧ ¬ 0 < n) ∨ (n % 3 = 0 ∧ 0 < n) := by omega
theorem NU (h : Hd) (plte trns : List Int) : iO h plte trns false := fun hh => by cases hh
theorem Mq (h : Hd) (plte trns : List Int) : (h.ar = 3 ∧ (iO h plte trns true ↔ trns.length ≤ plte.length / 3)) ∨ (¬ h.ar = 3 ∧ h.ar = 0 ∧ ¬ trns.length = 2 ∧ ¬ iO h plte trns true) ∨ (¬ h.ar = 3 ∧ h.ar = 0 ∧ trns.length = 2 ∧ iO h plte trns true) ∨
    (¬ h.ar = 3 ∧ ¬ h.ar = 0 ∧ h.ar = 2 ∧ ¬ trns.length = 6 ∧ ¬ iO h plte trns true) ∨ (¬ h.ar = 3 ∧ ¬ h.ar = 0 ∧ h.ar = 2 ∧ trns.length = 6 ∧ iO h plte trns true) ∨ (¬ h.ar = 3 ∧ ¬ h.ar = 0 ∧ ¬ h.ar = 2 ∧ ¬ iO h plte trns true) := by
  unfold iO
  simp only [true_implies]
  omega
theorem Jv {x P : Int} {d : Int} (hP : P = 2 ^ d.toNat) (hd : im d) (hx : 0 ≤ x ∧ x < 65536) : IntKind.i64.wrap ((BitVec.ofInt IntKind.i64.bits x &&& BitVec.ofInt IntKind.i64.bits (P - 1)).toNat : Int) = x % P := by
  obtain ⟨n, rfl⟩ : ∃ n : Nat, x = (n : Int) := ⟨x.toNat, by omega⟩
  subst hP
  have key : ∀ m : Nat, m ≤ 16 → IntKind.i64.wrap ((BitVec.ofInt IntKind.i64.bits (n : Int) &&& BitVec.ofInt IntKind.i64.bits (2 ^ m - 1)).toNat : Int) = (n : Int) % 2 ^ m := by
    intro m hm
    have e : IntKind.i64.bits = 64 := rfl
    have hp : (2 : Nat) ^ m ≤ 2 ^ 16 := Nat.pow_le_pow_right (by decide) hm
    have hp1 : (1 : Nat) ≤ 2 ^ m := Nat.one_le_two_pow
    have e1 : BitVec.ofInt 64 ((2 : Int) ^ m - 1) = BitVec.ofNat 64 (2 ^ m - 1) := by
      rw [show (2 : Int) ^ m - 1 = ((2 ^ m - 1 : Nat) : Int) from by push_cast [hp1]; rfl, BitVec.ofInt_natCast]
    rw [e, BitVec.ofInt_natCast, e1, BitVec.toNat_and, BitVec.toNat_ofNat, BitVec.toNat_ofNat, Nat.mod_eq_of_lt (by omega), Nat.mod_eq_of_lt (by omega), Nat.and_two_pow_sub_one_eq_mod]
    have h2 : n % 2 ^ m ≤ n := Nat.mod_le ..
    rw [fi (by omega) (by omega)]
    simp
  exact key _ (by have := iT hd; omega)
theorem Sr {h : Hd} {trns : List Int} (hc : h.ar = 0 ∨ h.ar = 2) (hl : trns.length / 2 = (parts h.ar).toNat) {i : Nat} (hi : i < (parts h.ar).toNat) : (aR h trns).take (i + 1) = (aR h trns).take i ++ [(trns.getD (2 * i) 0 * 256 + trns.getD (2 * i + 1) 0) % 2 ^ h.dep.toNat] ∧ (aR h trns).length = (parts h.ar).toNat := by
  unfold aR
  rw [if_pos hc]
  refine ⟨?_, by simp [hl]⟩
  rw [List.take_add_one]
  simp [hl, hi]
theorem LJ {h : Hd} {trns : List Int} (hc : h.ar = 0 ∨ h.ar = 2) (hl : trns.length / 2 = (parts h.ar).toNat) : (aR h trns).length = (parts h.ar).toNat := by
  unfold aR
  rw [if_pos hc]; simp [hl]
theorem TG {h : Hd} {trns : List Int} (hc : ¬ (h.ar = 0 ∨ h.ar = 2)) : aR h trns = [] := by unfold aR; rw [if_neg hc]
theorem KZ (h : Hd) : aR h [] = [] := by unfold aR; split <;> rfl
end Go.aa
namespace Go.aa
open Go.af Go.Sl
theorem FM {B : List Int} (hB : an B) {k : Nat} : bO B (16 * k) 16 = B.getD (2 * k) 0 * 256 + B.getD (2 * k + 1) 0 := by
  rw [show 16 * k = 8 * (2 * k) by omega, qG (hB.get _) (hB.get _)]
end Go.aa
namespace Go.aa
open Go.af Go.Sl
def fz (f : Fl) : Prop := deep f.hd.ar f.hd.dep ∧ an f.plte ∧ an f.trns ∧ f.plte.length < 500000000 ∧ f.trns.length < 500000000 ∧ (f.hd.ar = 0 → f.trns.length = 0 ∨ f.trns.length = 2) ∧ (f.hd.ar = 2 → f.trns.length = 0 ∨ f.trns.length = 6) ∧ (f.hd.ar = 4 ∨ f.hd.ar = 6 → f.trns = []) ∧ (f.hd.ar = 3 → f.plte.length % 3 = 0)
theorem gg {c d : Int} (h : deep c d) : (c = 0 ∧ parts c = 1) ∨ (c = 2 ∧ parts c = 3) ∨ (c = 3 ∧ parts c = 1) ∨ (c = 4 ∧ parts c = 2) ∨ (c = 6 ∧ parts c = 4) := by
  have hp := su c
  unfold deep at h
  omega
def yS (pl tr : List Int) (k : Nat) : Option (List Int) := if pl.length / 3 ≤ k then none else some [(pl.drop (3 * k)).getD 0 0 * 257, (pl.drop (3 * k)).getD 1 0 * 257, (pl.drop (3 * k)).getD 2 0 * 257, if k < tr.length then tr.getD k 0 * 257 else 65535]
def p9 (f : Fl) (v : List Int) : Int := if 0 < (aR f.hd f.trns).length ∧ v = aR f.hd f.trns then 0 else if f.hd.ar = 4 ∨ f.hd.ar = 6 then (v.map (up f.hd.dep)).getD ((v.map (up f.hd.dep)).length - 1) 0 else 65535
theorem yu {f : Fl} {v : List Int} (h : f.hd.ar = 3) : fS f v = yS f.plte f.trns (v.getD 0 0).toNat := by
  unfold fS yS
  rw [if_pos h]
  split
  · rfl
  · rw [fG, fG, fG]
    rfl
theorem tA {f : Fl} {v : List Int} (h : ¬ f.hd.ar = 3) : fS f v = some (if f.hd.ar = 0 ∨ f.hd.ar = 4 then [(v.map (up f.hd.dep)).getD 0 0, (v.map (up f.hd.dep)).getD 0 0, (v.map (up f.hd.dep)).getD 0 0, p9 f v] else [(v.map (up f.hd.dep)).getD 0 0, (v.map (up f.hd.dep)).getD 1 0, (v.map (up f.hd.dep)).getD 2 0, p9 f v]) := by
  unfold fS p9
  rw [if_neg h]
  show (if f.hd.ar = 0 ∨ f.hd.ar = 4 then _ else _) = _
  split <;> rfl
theorem zh {f : Fl} {v : List Int} (h : f.hd.ar = 0 ∨ f.hd.ar = 4) : fS f v = some [(v.map (up f.hd.dep)).getD 0 0, (v.map (up f.hd.dep)).getD 0 0, (v.map (up f.hd.dep)).getD 0 0, p9 f v] := by rw [tA (by omega), if_pos h]
theorem JP {f : Fl} {v : List Int} (h : ¬ (f.hd.ar = 0 ∨ f.hd.ar = 4)) (h3 : ¬ f.hd.ar = 3) : fS f v = some [(v.map (up f.hd.dep)).getD 0 0, (v.map (up f.hd.dep)).getD 1 0, (v.map (up f.hd.dep)).getD 2 0, p9 f v] := by rw [tA h3, if_neg h]
theorem Ru {pl tr : List Int} {k : Nat} (h : pl.length / 3 ≤ k) : yS pl tr k = none := if_pos h
theorem E4 {pl tr : List Int} {k : Nat} (h : ¬ pl.length / 3 ≤ k) : yS pl tr k = some [(pl.drop (3 * k)).getD 0 0 * 257, (pl.drop (3 * k)).getD 1 0 * 257, (pl.drop (3 * k)).getD 2 0 * 257, if k < tr.length then tr.getD k 0 * 257 else 65535] := if_neg h
theorem Bp {v : List Int} {d : Int} {i : Nat} (h : i < v.length) : (v.map (up d)).take i ++ [up d (v.getD i 0)] = (v.map (up d)).take (i + 1) := by
  rw [List.take_add_one]
  simp [h, List.getD_eq_getElem?_getD]
def sm (h : Hd) (row : List Int) (x i : Nat) : Int := bO row (x * (parts h.ar).toNat * h.dep.toNat + i * h.dep.toNat) h.dep.toNat
theorem kD (h : Hd) (row : List Int) (x : Nat) : (dX h row x).length = (parts h.ar).toNat := by simp [dX]
theorem LO {h : Hd} {row : List Int} {x i : Nat} (hi : i < (parts h.ar).toNat) : (dX h row x).getD i 0 = sm h row x i := by simp [dX, sm, hi, List.getD_eq_getElem?_getD]
theorem uc {h : Hd} {row : List Int} {x : Nat} : ∀ y ∈ dX h row x, 0 ≤ y ∧ y < 2 ^ h.dep.toNat := fun y hy => by
  unfold dX at hy
  obtain ⟨i, _, rfl⟩ := List.mem_map.1 hy
  exact lA _ _ _
def ZK (S : List Int) (i : Nat) : List Int := S.take i ++ List.replicate (4 - i) 0
def ky (h : Hd) (tr S : List Int) (i : Nat) : Bool := decide (0 < tr.length) && (List.range i).all fun j => decide ((tr.getD (2 * j) 0 * 256 + tr.getD (2 * j + 1) 0) % 2 ^ h.dep.toNat = S.getD j 0)
theorem Ll {w bits : Int} {x : Nat} {n : Nat} (hx : (x : Int) < w) (hb : 0 ≤ bits) (hn : (n : Int) = dE w bits) : (x : Int) * bits + bits ≤ 8 * n := by
  rw [hn]
  unfold dE
  have h1 : ((x : Int) + 1) * bits ≤ w * bits := Int.mul_le_mul_of_nonneg_right (by omega) hb
  rw [Int.add_mul, Int.one_mul] at h1
  omega
end Go.aa
namespace Go.aa
open Go.af Go.Sl
theorem hI {l : List Int} {i : Nat} (h : i < l.length) : l.getD i 0 ∈ l := by
  rw [List.getD_eq_getElem?_getD, List.getElem?_eq_getElem h]
  exact List.getElem_mem h
theorem vK {a b c d a' b' c' d' : Int} (h : some [a, b, c, d] = some [a', b', c', d']) : a = a' ∧ b = b' ∧ c = c' ∧ d = d' := by
  simpa using h
theorem tf (b : Bool) : b = true ∨ b = false := by cases b <;> simp
end Go.aa
namespace Go.aa
open Go.af Go.Sl
theorem Kq (f : Fl) (v : List Int) : fS f v = none ∨ ∃ a b c d, fS f v = some [a, b, c, d] := by
  by_cases h3 : f.hd.ar = 3
  · rw [yu h3]
    unfold yS
    split
    · exact .inl rfl
    · exact .inr ⟨_, _, _, _, rfl⟩
  · rw [tA h3]
    split
    · exact .inr ⟨_, _, _, _, rfl⟩
    · exact .inr ⟨_, _, _, _, rfl⟩
def vN (S old : List Int) (k : Nat) : List Int := S.take k ++ old.drop k
theorem XK (S old : List Int) : vN S old 0 = old := rfl
theorem L5 {S old : List Int} {k : Nat} (h : S.length = old.length) (hk : k ≤ S.length) : (vN S old k).length = S.length := by simp [vN]; omega
theorem NT {S old : List Int} (h : S.length = old.length) : vN S old S.length = S := by
  unfold vN
  rw [List.take_length, List.drop_eq_nil_of_le (by omega), List.append_nil]
theorem WY {S old : List Int} {k : Nat} (h : S.length = old.length) (hk : k < S.length) : (vN S old k).set k (S.getD k 0) = vN S old (k + 1) := by
  unfold vN
  have hl : (S.take k).length = k := by rw [List.length_take]; omega
  rw [List.drop_eq_getElem_cons (show k < old.length by omega), Al hl, List.take_add_one, List.append_assoc]
  congr 1
  simp [hk, List.getD_eq_getElem?_getD]
theorem WQ {h : Hd} {row old : List Int} {x N D k : Nat} (hN : N = (parts h.ar).toNat) (hD : D = h.dep.toNat) (ho : old.length = N) (hk : k < N) : (vN (dX h row x) old k).set ((k : Int)).toNat (bO row (x * N * D + k * D) D) = vN (dX h row x) old (k + 1) := by
  subst hN; subst hD
  have e := LO (h := h) (row := row) (x := x) hk
  unfold sm at e
  rw [← e, show ((k : Int)).toNat = k from rfl]
  exact WY (by rw [kD, ho]) (by rw [kD]; exact hk)
def ka (p : Ps) (w h : Int) : Prop := jd p ∧ (∀ k : Int, 0 ≤ k → k < p.w → p.x + k * p.dx < w) ∧ ∀ k : Int, 0 ≤ k → k < p.h → p.y + k * p.dy < h
theorem M5 {x y dx dy w h : Int} (hx : 0 ≤ x ∧ x ≤ 8) (hy : 0 ≤ y ∧ y ≤ 8) (hdx : dx = 1 ∨ dx = 2 ∨ dx = 4 ∨ dx = 8) (hdy : dy = 1 ∨ dy = 2 ∨ dy = 4 ∨ dy = 8) (hw : 0 ≤ w ∧ w ≤ 256) (hh : 0 ≤ h ∧ h ≤ 256) : ka (tH x y dx dy w h) w h :=
  ⟨C5 hx hy hdx hdy hw hh, fun k h0 hk => (Ac hdx h0).2 hk, fun k h0 hk => (Ac hdy h0).2 hk⟩
theorem vi {w h : Int} (hw : 0 ≤ w ∧ w ≤ 256) (hh : 0 ≤ h ∧ h ≤ 256) : ∀ p ∈ eW w h, ka p w h := fun p hp => by
  have hm := (List.mem_filter.1 hp).1
  unfold gX at hm
  simp only [List.mem_cons, List.not_mem_nil, or_false] at hm
  rcases hm with rfl | rfl | rfl | rfl | rfl | rfl | rfl <;> exact M5 (by decide) (by decide) (by decide) (by decide) hw hh
theorem xr {w h : Int} (hw : 0 ≤ w ∧ w ≤ 256) (hh : 0 ≤ h ∧ h ≤ 256) : ∀ p ∈ whole w h, ka p w h := fun p hp => by
  have := (xB hw hh).1 p hp
  unfold whole at hp
  rw [List.mem_singleton.1 hp] at this ⊢
  exact ⟨this, fun k h0 hk => by show 0 + k * 1 < w; have : k < w := hk; omega, fun k h0 hk => by show 0 + k * 1 < h; have : k < h := hk; omega⟩
section
variable {f : Fl} {p : Ps} {y : Int} {row : List Int} {i : Nat} {P : List Int} {r : Option (List Int)}
theorem PW (hi : (i : Int) < p.w) (hpx : fS f (dX f.hd row i) = none) (h : dW f p y row (p.w.toNat - i) i P = r) : r = none := by
  rw [show p.w.toNat - i = (p.w.toNat - (i + 1)) + 1 by omega, dW, hpx] at h
  exact h.symm
theorem Ra {c : List Int} (hi : (i : Int) < p.w) (hpx : fS f (dX f.hd row i) = some c) (h : dW f p y row (p.w.toNat - i) i P = r) : dW f p y row (p.w.toNat - (i + 1)) (i + 1) (kN f.hd.w P (p.x + i * p.dx) (p.y + y * p.dy) c) = r := by
  rw [show p.w.toNat - i = (p.w.toNat - (i + 1)) + 1 by omega, dW, hpx] at h
  exact h
theorem PM (hi : ¬ (i : Int) < p.w) (h : dW f p y row (p.w.toNat - i) i P = r) : r = some P := by
  rw [show p.w.toNat - i = 0 by omega, dW] at h
  exact h.symm
end
section
variable {f : Fl} {D : List Int} {n back : Nat} {p : Ps} {y a : Nat} {A P : List Int} {r : Option (Nat × List Int)}
theorem JZ (hy : (y : Int) < p.h) (hk : 4 < D.getD a 0) (h : eb f D n back p (p.h.toNat - y) y a A P = r) : r = none := by
  rw [show p.h.toNat - y = (p.h.toNat - (y + 1)) + 1 by omega, eb, if_pos hk] at h
  exact h.symm
theorem Li (hy : (y : Int) < p.h) (hk : ¬ 4 < D.getD a 0) (hr : dW f p y (eB (D.getD a 0) ((D.drop (a + 1)).take n) A back) p.w.toNat 0 P = none) (h : eb f D n back p (p.h.toNat - y) y a A P = r) : r = none := by
  rw [show p.h.toNat - y = (p.h.toNat - (y + 1)) + 1 by omega, eb, if_neg hk, hr] at h
  exact h.symm
theorem JV {P2 : List Int} (hy : (y : Int) < p.h) (hk : ¬ 4 < D.getD a 0) (hr : dW f p y (eB (D.getD a 0) ((D.drop (a + 1)).take n) A back) p.w.toNat 0 P = some P2) (h : eb f D n back p (p.h.toNat - y) y a A P = r) : eb f D n back p (p.h.toNat - (y + 1)) (y + 1) (a + 1 + n) (eB (D.getD a 0) ((D.drop (a + 1)).take n) A back) P2 = r := by
  rw [show p.h.toNat - y = (p.h.toNat - (y + 1)) + 1 by omega, eb, if_neg hk, hr] at h
  exact h
theorem LF (hy : ¬ (y : Int) < p.h) (h : eb f D n back p (p.h.toNat - y) y a A P = r) : r = some (a, P) := by
  rw [show p.h.toNat - y = 0 by omega, eb] at h
  exact h.symm
theorem Ts (f : Fl) (D : List Int) (n back : Nat) (p : Ps) (y a : Nat) (A P : List Int) : 4 < D.getD a 0 ∨ (¬ 4 < D.getD a 0 ∧ dW f p y (eB (D.getD a 0) ((D.drop (a + 1)).take n) A back) p.w.toNat 0 P = none) ∨ (¬ 4 < D.getD a 0 ∧ ∃ P2, dW f p y (eB (D.getD a 0) ((D.drop (a + 1)).take n) A back) p.w.toNat 0 P = some P2) := by
  by_cases h : 4 < D.getD a 0
  · exact .inl h
  · cases hr : dW f p y (eB (D.getD a 0) ((D.drop (a + 1)).take n) A back) p.w.toNat 0 P with
    | none => exact .inr (.inl ⟨h, rfl⟩)
    | some P2 => exact .inr (.inr ⟨h, P2, rfl⟩)
end
theorem ML (x : Int) : (if 1 < x then x else 1) = max 1 x := by split <;> omega
theorem uM (kind : Int) (row above : List Int) (back : Nat) : an (eB kind row above back) := rE kind row above back row.length
def mO (bits : Int) (l : List Ps) : Nat := (l.map fun p => p.h.toNat * (1 + (dE p.w bits).toNat)).sum
theorem EF (bits : Int) (p : Ps) (l : List Ps) : mO bits (p :: l) = p.h.toNat * (1 + (dE p.w bits).toNat) + mO bits l := by simp [mO]
theorem sT {bits : Int} (hb : 0 ≤ bits ∧ bits ≤ 64) : ∀ {l : List Ps}, (∀ p ∈ l, jd p ∧ 0 < p.w) → (mO bits l : Int) = fh l bits
  | [], _ => rfl
  | p :: l, h => by
    have ih := sT hb (fun q hq => h q (List.mem_cons_of_mem _ hq))
    obtain ⟨ho, hw⟩ := h p (List.mem_cons_self ..)
    obtain ⟨_, _, _, _, _, _, hw0, hw1, hh0, hh1⟩ := ho
    have hr := nc ⟨hw0, hw1⟩ hb
    rw [EF]
    unfold fh at ih ⊢
    rw [List.map_cons, List.sum_cons, if_pos hw, ← ih]
    push_cast
    rw [Int.toNat_of_nonneg hh0, Int.toNat_of_nonneg hr.2.2.1]
theorem Hl {w h : Int} : ∀ p ∈ eW w h, 0 < p.w := fun p hp => by
  have := (List.mem_filter.1 hp).2
  simp only [Bool.and_eq_true, decide_eq_true_eq] at this
  exact this.1
theorem Ly {w h : Int} (hw : 0 < w) : ∀ p ∈ whole w h, 0 < p.w := fun p hp => by
  unfold whole at hp
  rw [List.mem_singleton.1 hp]
  exact hw
end Go.aa
namespace Go.aa
open Go.af Go.Sl
theorem gj : an [] := fun x hx => by cases hx
theorem yL {h : Hd} {p : Ps} {nr : Nat} (hp : 0 ≤ parts h.ar) (hd : 0 ≤ h.dep) (hnr : (nr : Int) = dE p.w (parts h.ar * h.dep)) : ∀ i : Nat, (i : Int) < p.w → i * (parts h.ar).toNat * h.dep.toNat + (parts h.ar).toNat * h.dep.toNat ≤ 8 * nr := fun i hi => by
  have hb := Ll hi (Int.mul_nonneg hp hd) hnr
  have e1 : ((i * (parts h.ar).toNat * h.dep.toNat + (parts h.ar).toNat * h.dep.toNat : Nat) : Int) = (i : Int) * (parts h.ar * h.dep) + parts h.ar * h.dep := by
    push_cast
    rw [Int.toNat_of_nonneg hp, Int.toNat_of_nonneg hd, Int.mul_assoc]
  omega
end Go.aa
namespace Go.aa
open Go.af Go.Sl
theorem jR {h : Hd} (hs : aW h.w h.h = 0) : (∀ p ∈ aN h, ka p h.w h.h ∧ jd p ∧ 0 < p.w) ∧ (aN h).length ≤ 7 := by
  have hsd := jE hs
  unfold aN
  cases h.ba with
  | true => exact ⟨fun p hp => ⟨vi (by omega) (by omega) p hp, (vi (by omega) (by omega) p hp).1, Hl p hp⟩, (DE (by omega) (by omega)).2⟩
  | false => exact ⟨fun p hp => ⟨xr (by omega) (by omega) p hp, (xr (by omega) (by omega) p hp).1, Ly (by omega) p hp⟩, (xB (by omega) (by omega)).2⟩
theorem BZ {h : Hd} (hl : h.ba = true) : eW h.w h.h = aN h := by unfold aN; rw [hl]; rfl
theorem Ca {h : Hd} (hl : h.ba = false) : whole h.w h.h = aN h := by unfold aN; rw [hl]; rfl
def k8 (f : Fl) (z : List Int × Int) : oN × Int := if z.2 ≠ 0 then (dL, z.2) else if (z.1.length : Int) < want f.hd then (dL, 2) else match eA f z.1 (aN f.hd) 0 (iZ f.hd) with | none => (dL, 4) | some bN => (⟨f.hd.w, f.hd.h, bN⟩, 0)
theorem WJ (f : Fl) (z : List Int × Int) : (z.2 ≠ 0 ∧ k8 f z = (dL, z.2)) ∨ (¬ z.2 ≠ 0 ∧ (z.1.length : Int) < want f.hd ∧ k8 f z = (dL, 2)) ∨ (¬ z.2 ≠ 0 ∧ ¬ (z.1.length : Int) < want f.hd) := by
  by_cases h1 : z.2 ≠ 0
  · exact .inl ⟨h1, if_pos h1⟩
  · by_cases h2 : (z.1.length : Int) < want f.hd
    · exact .inr (.inl ⟨h1, h2, by unfold k8; rw [if_neg h1, if_pos h2]⟩)
    · exact .inr (.inr ⟨h1, h2⟩)
theorem Jk {f : Fl} {z : List Int × Int} (h1 : ¬ z.2 ≠ 0) (h2 : ¬ (z.1.length : Int) < want f.hd) (h : eA f z.1 (aN f.hd) 0 (iZ f.hd) = none) : k8 f z = (dL, 4) := by unfold k8; rw [if_neg h1, if_neg h2, h]
theorem IU {f : Fl} {z : List Int × Int} {bN : List Int} (h1 : ¬ z.2 ≠ 0) (h2 : ¬ (z.1.length : Int) < want f.hd) (h : eA f z.1 (aN f.hd) 0 (iZ f.hd) = some bN) : k8 f z = (⟨f.hd.w, f.hd.h, bN⟩, 0) := by unfold k8; rw [if_neg h1, if_neg h2, h]
theorem E3 {h : Hd} (hs : aW h.w h.h = 0) (hd : deep h.ar h.dep) : (mO (bitsOf h) (aN h) : Int) = want h := by
  have hb := ld hd
  exact sT ⟨by unfold bitsOf; omega, by unfold bitsOf; omega⟩ (fun p hp => ⟨((jR hs).1 p hp).2.1, ((jR hs).1 p hp).2.2⟩)
theorem Lu {h : Hd} (hs : aW h.w h.h = 0) (hd : deep h.ar h.dep) : 0 ≤ want h ∧ want h < 500000000 := by
  have hb := ld hd
  have h1 := va (l := aN h) (bits := bitsOf h) ⟨by unfold bitsOf; omega, by unfold bitsOf; omega⟩ (fun p hp => ((jR hs).1 p hp).2.1)
  have h7 := (jR hs).2
  unfold want
  omega
theorem tO {l : List Ps} {i : Nat} (h : i < l.length) : l.drop i = l.getD i ⟨0, 0, 0, 0, 0, 0⟩ :: l.drop (i + 1) := by
  rw [List.drop_eq_getElem_cons h, List.getD_eq_getElem?_getD, List.getElem?_eq_getElem h]
  rfl
def kG (h : Hd) (p : Ps) : Nat := (dE p.w (bitsOf h)).toNat
def mQ (h : Hd) : Nat := (max 1 (bitsOf h / 8)).toNat
theorem Ax {h : Hd} {p : Ps} (hp : jd p) (hd : deep h.ar h.dep) : (kG h p : Int) = dE p.w (parts h.ar * h.dep) := by
  have hb := ld hd
  obtain ⟨_, _, _, _, _, _, hw0, hw1, _, _⟩ := hp
  have := nc (w := p.w) (bits := parts h.ar * h.dep) ⟨hw0, hw1⟩ (by omega)
  exact Int.toNat_of_nonneg this.2.2.1
theorem AX (h : Hd) : (mQ h : Int) = max 1 (parts h.ar * h.dep / 8) := Int.toNat_of_nonneg (by unfold bitsOf; omega)
section
variable {f : Fl} {D : List Int} {l : List Ps} {i a : Nat} {P : List Int} {x : Ps} {r : Option (List Int)}
theorem RB (hi : i < l.length) (hx : x = l.getD i ⟨0, 0, 0, 0, 0, 0⟩) (hr : eb f D (kG f.hd x) (mQ f.hd) x x.h.toNat 0 a [] P = none) (h : eA f D (l.drop i) a P = r) : r = none := by
  rw [tO hi, ← hx, eA] at h
  unfold kG mQ at hr
  rw [hr] at h
  exact h.symm
theorem M6 {a2 : Nat} {P2 : List Int} (hi : i < l.length) (hx : x = l.getD i ⟨0, 0, 0, 0, 0, 0⟩) (hr : eb f D (kG f.hd x) (mQ f.hd) x x.h.toNat 0 a [] P = some (a2, P2)) (h : eA f D (l.drop i) a P = r) : eA f D (l.drop (i + 1)) a2 P2 = r := by
  rw [tO hi, ← hx, eA] at h
  unfold kG mQ at hr
  rw [hr] at h
  exact h
theorem N1 (hi : ¬ i < l.length) (h : eA f D (l.drop i) a P = r) : r = some P := by
  rw [List.drop_eq_nil_of_le (by omega), eA] at h
  exact h.symm
theorem RL {bits : Int} (hi : i < l.length) (hx : x = l.getD i ⟨0, 0, 0, 0, 0, 0⟩) : mO bits (l.drop i) = x.h.toNat * (1 + (dE x.w bits).toNat) + mO bits (l.drop (i + 1)) := by rw [tO hi, ← hx, EF]
theorem WW (o : Option (Nat × List Int)) : o = none ∨ ∃ a P, o = some (a, P) := by
  match o with
  | none => exact .inl rfl
  | some (a, P) => exact .inr ⟨a, P, rfl⟩
end
inductive YZ (B : List Int) (r : oN × Int) : Prop
  | cut (e : Int) (h : aa.cut B = .error e) (hr : r = (dL, e))
  | ord (l : List Ch) (h : aa.cut B = .ok l) (ho : cJ l = false) (hr : r = (dL, 4))
  | head (l : List Ch) (h : aa.cut B = .ok l) (ho : cJ l = true) (hh : eJ (du l) ≠ 0) (hr : r = (dL, eJ (du l)))
  | tab1 (l : List Ch) (h : aa.cut B = .ok l) (ho : cJ l = true) (hh : eJ (du l) = 0) (ht : ¬ ir (aL (du l)) (bC l aT) (dV l aT)) (hr : r = (dL, 4))
  | tab2 (l : List Ch) (h : aa.cut B = .ok l) (ho : cJ l = true) (hh : eJ (du l) = 0) (ht : ir (aL (du l)) (bC l aT) (dV l aT)) (hc : ¬ iO (aL (du l)) (bC l aT) (bC l aQ) (dV l aQ)) (hr : r = (dL, 4))
  | open_ (l : List Ch) (z : List Int × Int) (h : aa.cut B = .ok l) (ho : cJ l = true) (hh : eJ (du l) = 0) (ht : ir (aL (du l)) (bC l aT) (dV l aT)) (hc : iO (aL (du l)) (bC l aT) (bC l aQ) (dV l aQ)) (hz : aG.lR (bW l) (want (aL (du l))) z) (hr : r = k8 (oD l) z)
theorem kt.WD {B : List Int} {r : oN × Int} (h : kt B r) : YZ B r := by
  rcases h.ways with ⟨e, h1, h2⟩ | ⟨l, h1, h2, h3⟩ | ⟨l, h1, h2, h3, h4⟩ | ⟨l, h1, h2, h3, h4, h5⟩ | ⟨l, q, h1, h2, h3, h4, h5, h6⟩
  · exact .cut e h1 h2
  · exact .ord l h1 h2 h3
  · exact .head l h1 h2 h3 h4
  · by_cases ha : ir (aL (du l)) (bC l aT) (dV l aT)
    · exact .tab2 l h1 h2 h3 ha (fun q => h4 ⟨ha, q⟩) h5
    · exact .tab1 l h1 h2 h3 ha h5
  · refine .open_ l q h1 h2 h3 h4.1 h4.2 h5 ?_
    rcases h6 with ⟨a, b⟩ | ⟨a, b, c⟩ | ⟨a, b, c, d⟩ | ⟨bN, a, b, c, d⟩
    · rw [b]; unfold k8; rw [if_pos a]
    · rw [c]; unfold k8; rw [if_neg (fun q => q a)]; exact (if_pos b).symm
    · rw [d]; exact (Jk (fun q => q a) (by show ¬ _ < want (aL (du l)); omega) c).symm
    · rw [d]; exact (IU (f := oD l) (fun q => q a) (by show ¬ _ < want (aL (du l)); omega) c).symm
theorem rk {B : List Int} (h : eJ B = 0) : deep (aL B).ar (aL B).dep ∧ aW (aL B).w (aL B).h = 0 := by
  rcases Av B with ⟨_, e⟩ | ⟨_, _, e⟩ | ⟨_, _, _, e⟩ | ⟨_, _, _, _, e⟩ | ⟨_, _, _, _, _, e⟩ | ⟨_, _, _, _, _, _, e⟩ | ⟨_, _, _, _, _, _, _, e⟩ | ⟨_, h1, _, _, _, _, h2, _⟩
  all_goals first | (rw [h] at e; exact absurd e (by decide)) | exact ⟨h1, Classical.not_not.1 h2⟩
theorem K6 {h : Hd} {pl tr : List Int} {has is : Bool} (hd : deep h.ar h.dep) (hB : an pl) (hBt : an tr) (hpl : pl.length < 500000000) (htl : tr.length < 500000000) (ha : ir h pl has) (hc : iO h pl tr is) (h0 : has = false → pl = []) (h1 : is = false → tr = []) : fz ⟨h, pl, tr⟩ := by
  refine ⟨hd, hB, hBt, hpl, htl, fun q => ?_, fun q => ?_, fun q => ?_, fun q => ?_⟩
  all_goals have q : _ := q
  · cases is with
    | false => exact .inl (by rw [h1 rfl]; rfl)
    | true => have := hc rfl; have q : h.ar = 0 := q; show tr.length = 0 ∨ tr.length = 2; omega
  · cases is with
    | false => exact .inl (by rw [h1 rfl]; rfl)
    | true => have := hc rfl; have q : h.ar = 2 := q; show tr.length = 0 ∨ tr.length = 6; omega
  · cases is with
    | false => exact h1 rfl
    | true => have := hc rfl; have q : h.ar = 4 ∨ h.ar = 6 := q; omega
  · have q : h.ar = 3 := q
    cases has with
    | false => exact absurd q ha
    | true => exact ha.2.2.1
theorem Kv (h : Hd) : fh (aN h) (parts h.ar * h.dep) = want h := rfl
theorem GK {l : List Ps} {i : Nat} (h : i < l.length) : l.getD i ⟨0, 0, 0, 0, 0, 0⟩ ∈ l := by
  rw [List.getD_eq_getElem?_getD, List.getElem?_eq_getElem h]
  exact List.getElem_mem h
theorem Mp {B : List Int} {mo : Int} {q : List Int × Int} (hB : an B) (hm : mo < 500000000) (h : aG.lR B mo q) : an q.1 ∧ q.1.length < 500000000 := by
  rcases h.ways hB hm with ⟨_, rfl⟩ | ⟨_, _, rfl⟩ | ⟨e, _, _, _, _, rfl⟩ | ⟨x, n, _, _, _, _, _, _, _, rfl⟩ | ⟨x, n, _, _, _, _, _, _, _, rfl⟩ | ⟨x, n, _, _, _, _, _, _, _, _, rfl⟩ | ⟨x, n, _, _, _, h1, h2, _, _, _, rfl⟩
  · exact ⟨gj, Nat.zero_lt_succ _⟩
  · exact ⟨gj, Nat.zero_lt_succ _⟩
  · exact ⟨gj, Nat.zero_lt_succ _⟩
  · exact ⟨gj, Nat.zero_lt_succ _⟩
  · exact ⟨gj, Nat.zero_lt_succ _⟩
  · exact ⟨gj, Nat.zero_lt_succ _⟩
  · exact ⟨h1, h2⟩
end Go.aa
namespace Go.aa
open Go.af Go.Sl
theorem GO {L : List Int} {e : Int} (h : first L = .error e) : e ≠ 0 := by
  unfold first at h
  split at h
  · cases h; decide
  · split at h
    · cases h; decide
    · split at h
      · cases h; decide
      · split at h
        · cases h
        · cases h; decide
theorem zc : ∀ {f : Nat} {L : List Int} {a : List Ch} {e : Int}, fy f L a = .error e → e ≠ 0
  | 0, L, a, e, h => by rw [fy] at h; cases h; decide
  | f + 1, L, a, e, h => by
    rw [fy] at h
    split at h
    · rename_i e' he; cases h; exact GO he
    · split at h
      · split at h
        · cases h
        · cases h; decide
      · exact zc h
theorem Nh {B : List Int} {e : Int} (h : cut B = .error e) : e ≠ 0 := by
  unfold cut at h
  split at h
  · cases h; decide
  · split at h
    · cases h; decide
    · split at h
      · exact zc h
      · cases h; decide
theorem kF {l : List Ch} (h : ∀ c ∈ l, an c.d) (k : List Int) : an (bC l k) := by
  unfold bC
  split
  · rename_i c hc; exact h c (List.mem_of_find?_eq_some hc)
  · exact gj
theorem PI {l : List Ch} {h : Hd} {P T : List Int} (h1 : h = aL (du l)) (h2 : P = bC l aT) (h3 : T = bC l aQ) : oD l = ⟨h, P, T⟩ := by subst h1; subst h2; subst h3; rfl
end Go.aa
namespace Go.aa
open Go.af Go.Sl
theorem ND {L : List Ch} {i : Nat} {x : Ch} (h : L[i]? = some x) : aX (L.take (i + 1)) = aX (L.take i) ++ e9 x := by
  rw [mD h]
  unfold aX gy
  rw [List.flatMap_append, List.append_assoc]
  simp
theorem join_le (L : List Ch) (i : Nat) : (aX (L.take i)).length ≤ (aX L).length := by
  conv => rhs; rw [← List.take_append_drop i L]
  unfold aX gy
  rw [List.flatMap_append]
  simp only [List.length_append]
  omega
theorem ON (L : List Ch) : aX (L.take 0) = ea := by unfold aX gy; simp
theorem Rh {J k d : List Int} {n s : Int} (hn : n = (d.length : Int)) (hs : s = gf k d) : J ++ [n / 16777216 % 256, n / 65536 % 256, n / 256 % 256, n % 256] ++ k ++ d ++ [s / 16777216 % 256, s / 65536 % 256, s / 256 % 256, s % 256] = J ++ e9 ⟨k, d⟩ := by
  subst hn; subst hs
  unfold e9 nm
  simp only [List.append_assoc]
theorem Hj (x : Ch) : (e9 x).length = 4 + x.k.length + x.d.length + 4 := by
  unfold e9
  simp only [List.length_append, Ah]
  omega
theorem P4 (P : List Int) (W y : Nat) : bX P W y ++ [0] ++ two ((P.drop (4 * W * y)).take (4 * W)) = bX P W (y + 1) := by
  rw [bX, hH, List.append_assoc]; rfl
theorem TS {l : List Int} {i : Nat} (h : i < l.length) : two (l.take i) ++ [l.getD i 0 / 256, l.getD i 0 % 256] = two (l.take (i + 1)) := by
  rw [List.take_add_one]
  unfold two
  rw [List.flatMap_append]
  congr 1
  simp [h, List.getD_eq_getElem?_getD]
theorem LB : kt [] (dL, 2) := by
  unfold kt cut
  rfl
theorem D8 : Sz [0, 0, 7, 65535] 1 1 := ⟨by decide, by decide, by decide, rfl, fun x hx => by
  simp only [List.mem_cons, List.not_mem_nil, or_false] at hx
  rcases hx with rfl | rfl | rfl | rfl <;> decide⟩
end Go.aa
namespace Go.aa
open Go.af Go.Sl
theorem EI {P : List Int} {W H y i : Nat} (hP : P.length = 4 * W * H) (hy : y < H) (hi : i < 4 * W) : ((P.drop (4 * W * y)).take (4 * W)).length = 4 * W ∧ ((P.drop (4 * W * y)).take (4 * W)).getD i 0 = P.getD (4 * W * y + i) 0 ∧ 4 * W * y + i < P.length := by
  have : 4 * W * (y + 1) ≤ 4 * W * H := Nat.mul_le_mul_left _ hy
  rw [Nat.mul_succ] at this
  refine ⟨by rw [List.length_take, List.length_drop]; omega, ?_, by omega⟩
  rw [List.getD_eq_getElem?_getD, List.getD_eq_getElem?_getD, List.getElem?_take, if_pos hi, List.getElem?_drop]
theorem AR {P : List Int} {W H y : Nat} (s : Sz P W H) (hy : y ≤ H) : (bX P W y).length ≤ 131328 := by
  obtain ⟨r, h⟩ := r5 P W y (H - y)
  have h2 := nC s
  rw [show y + (H - y) = H by omega] at h
  rw [h, List.length_append] at h2
  omega
def jM (P : List Int) (W y i : Nat) : List Int := bX P W y ++ [0] ++ two (((P.drop (4 * W * y)).take (4 * W)).take i)
theorem EK (P : List Int) (W y : Nat) : bX P W y ++ [0] = jM P W y 0 := by unfold jM; simp [two]
theorem Mz {P : List Int} {W H y i : Nat} (hP : P.length = 4 * W * H) (hy : y < H) (hi : i < 4 * W) : jM P W y i ++ [P.getD (4 * W * y + i) 0 / 256, P.getD (4 * W * y + i) 0 % 256] = jM P W y (i + 1) := by
  obtain ⟨h1, h2, _⟩ := EI hP hy hi
  unfold jM
  rw [← h2, List.append_assoc, TS (by omega)]
theorem RU {P : List Int} {W H y : Nat} (hP : P.length = 4 * W * H) (hy : y < H) : jM P W y (4 * W) = bX P W (y + 1) := by
  unfold jM
  rw [List.take_of_length_le (Nat.le_trans (List.length_take_le _ _) (Nat.le_refl _))]
  exact P4 P W y
theorem Jw {P : List Int} {W H y i : Nat} (s : Sz P W H) (hy : y ≤ H) (hi : i ≤ 4 * W) : (jM P W y i).length ≤ 140000 := by
  have h1 := AR s hy
  have h2 := s.w.2
  unfold jM
  simp only [List.length_append, zi, List.length_take, List.length_cons, List.length_nil]
  omega
theorem WO {P : List Int} {W H : Nat} (s : Sz P W H) : P.length ≤ 65536 := by
  have h1 := s.len
  have h2 := s.wh
  rw [Nat.mul_assoc] at h1
  omega
def Good (r : oN × Int) : Prop := (r.2 ≠ 0 ∧ r.1 = dL) ∨ (r.2 = 0 ∧ aW r.1.w r.1.h = 0 ∧ (r.1.bN.length : Int) = 4 * r.1.w * r.1.h)
end Go.aa
namespace Go.aa
open Go.af Go.Sl
end Go.aa
namespace Go.Sl
abbrev I3 : Ec Int := aC 3 .i64
abbrev pj : Ec (Int × Int) := ⟨279, 2, fun x => [.int .i64 x.1, .int .i64 x.2], (0, 0), fun _ => rfl, fun _ => rfl⟩
structure Cv where
  p1 : Option Addr
  c1 : Nat
  p2 : Option Addr
  c2 : Nat
def HC (b : Nat) (ls : List Int) : ad := fun w0 h => ∃ i : Cv, True ∧ bZ w0 [ai b 275 (CA [.slice i.p1 ls.length i.c1] .i64 (ae.bM ls) [.slice i.p2 (ae.ord ls).length i.c2, .int .i64 (ae.bY ls)]), Row pj i.p1 ls.length i.c1 (ae.words ls), Row I3 i.p2 (ae.ord ls).length i.c2 (ae.ord ls)] h
theorem nI {b c1 c2 : Nat} {p1 p2 : Option Addr} {ls : List Int} {ws : List (Int × Int)} {w0 : World} {h : Hp} (e : ws = ae.words ls)
    (hh : bZ w0 [ai b 275 (CA [.slice p1 ls.length c1] .i64 (ae.bM ls) [.slice p2 (ae.ord ls).length c2, .int .i64 (ae.bY ls)]), Row pj p1 ls.length c1 ws, Row I3 p2 (ae.ord ls).length c2 (ae.ord ls)] h) : HC b ls w0 h := by
  subst e; exact ⟨⟨p1, c1, p2, c2⟩, trivial, hh⟩
end Go.Sl
namespace Go.Sl
def RC (b : Nat) (ls : List Int) : ad := fun w0 h => ∃ i : Cv, True ∧ bZ w0 [ai b 231 (CA [] .i64 (ae.bM ls) [.slice i.p1 (ae.ord ls).length i.c1, .slice i.p2 ls.length i.c2]), Row I3 i.p1 (ae.ord ls).length i.c1 (ae.ord ls), Row I3 i.p2 ls.length i.c2 ls] h
end Go.Sl
namespace Go.Sl
abbrev U5 : Ec Int := aC 5 .u8
structure Lv where
  p1 : Option Addr
  c1 : Nat
  p2 : Option Addr
  c2 : Nat
def LW (b : Nat) (B : List Int) (at_ : Nat) (out : List Int) (free : Int) : ad := fun w0 h => ∃ i : Lv, True ∧ bZ w0 [ai b 236 [.slice i.p1 B.length i.c1, .slice i.p2 out.length i.c2, .int .i64 (at_ : Int), .int .i64 free], Row U5 i.p1 B.length i.c1 B, Row U5 i.p2 out.length i.c2 out] h
theorem nW {b at_ : Nat} {p1 p2 : Option Addr} {c1 c2 : Nat} {B out : List Int} {free : Int} {w0 : World} {h : Hp}
    (hh : bZ w0 [ai b 236 [.slice p1 B.length c1, .slice p2 out.length c2, .int .i64 (at_ : Int), .int .i64 free], Row U5 p1 B.length c1 B, Row U5 p2 out.length c2 out] h) : LW b B at_ out free w0 h := ⟨⟨p1, c1, p2, c2⟩, trivial, hh⟩
def WB (b : Nat) (bs : List Int) : ad := fun w0 h => ∃ i : List Int × Nat, (af.Pk bs i.1 i.2 ∧ i.2 < 8) ∧ bZ w0 [LW b [] 0 i.1 (i.2 : Int)] h
end Go.Sl
namespace Go.Sl
structure Mi where
  po : Option Addr
  co : Nat
def MS (b bl : Nat) (sz mo : Int) (li di : Value) (s : ab.St) : ad := fun w0 h => ∃ i : Mi, True ∧ bZ w0 [ai b 223 [.pointer (some ⟨bl, 0, none⟩), .int .i64 sz, .int .i64 mo, .slice i.po s.out.length i.co, .bool s.ended, .int .i64 0, .int .i64 s.kind, .int .i64 (s.left : Int), .bool s.last, li, di, .int .i64 (s.aw : Int), .int .i64 (s.bA : Int)], Row U5 i.po s.out.length i.co s.out] h
theorem cT {b bl : Nat} {sz mo : Int} {li di : Value} {s : ab.St} {po : Option Addr} {co n : Nat} {w0 : World} {h : Hp} (hn : n = s.out.length)
    (hh : bZ w0 [ai b 223 [.pointer (some ⟨bl, 0, none⟩), .int .i64 sz, .int .i64 mo, .slice po n co, .bool s.ended, .int .i64 0, .int .i64 s.kind, .int .i64 (s.left : Int), .bool s.last, li, di, .int .i64 (s.aw : Int), .int .i64 (s.bA : Int)], Row U5 po n co s.out] h) : MS b bl sz mo li di s w0 h := by
  subst hn; exact ⟨⟨po, co⟩, trivial, hh⟩
theorem qH {b bl : Nat} {sz mo : Int} {li di : Value} {s : ab.St} {w0 : World} {h : Hp} (hh : MS b bl sz mo li di s w0 h) : ∃ i : Mi, True ∧ bZ w0 [ai b 223 [.pointer (some ⟨bl, 0, none⟩), .int .i64 sz, .int .i64 mo, .slice i.po s.out.length i.co, .bool s.ended, .int .i64 0, .int .i64 s.kind, .int .i64 (s.left : Int), .bool s.last, li, di, .int .i64 (s.aw : Int), .int .i64 (s.bA : Int)], Row U5 i.po s.out.length i.co s.out] h := hh
structure Vx where
  v3 : Value
  v4 : Value
  v5 : Value
  v6 : Value
  v7 : Value
  v8 : Value
  v9 : Value
  v10 : Value
  v11 : Value
  v12 : Value
def MX (b bl : Nat) (sz mo : Int) : ad := fun w0 h => ∃ i : Vx, True ∧ bZ w0 [ai b 223 [.pointer (some ⟨bl, 0, none⟩), .int .i64 sz, .int .i64 mo, i.v3, i.v4, i.v5, i.v6, i.v7, i.v8, i.v9, i.v10, i.v11, i.v12]] h
theorem bQ {b bl : Nat} {sz mo : Int} {v3 v4 v5 v6 v7 v8 v9 v10 v11 v12 : Value} {w0 : World} {h : Hp}
    (hh : bZ w0 [ai b 223 [.pointer (some ⟨bl, 0, none⟩), .int .i64 sz, .int .i64 mo, v3, v4, v5, v6, v7, v8, v9, v10, v11, v12]] h) : MX b bl sz mo w0 h := ⟨⟨v3, v4, v5, v6, v7, v8, v9, v10, v11, v12⟩, trivial, hh⟩
def PE (e : Int) (ch : List PanicEntry) : Prop := (ch = jo 194 (.agg #[]) ∧ e = 2) ∨ (ch = jo 237 (.agg #[]) ∧ e = 4) ∨ (ch = jo 27 (.int .i64 e) ∧ e ≠ 0)
theorem PE.no {e : Int} (h : e ≠ 0) : PE e (jo 27 (.int .i64 e)) := .inr (.inr ⟨rfl, h⟩)
theorem PE.end_ : PE 2 (jo 194 (.agg #[])) := .inl ⟨rfl, rfl⟩
theorem PE.none_ : PE 4 (jo 237 (.agg #[])) := .inr (.inl ⟨rfl, rfl⟩)
def gB {α : Type} (E : Except Int α) (R : α → Value → List ad → Prop) (Gx : List ad) : Ending → List ad → Prop := sG (fun v G => ∃ x, E = .ok x ∧ R x v G) (fun ch G => ∃ e, E = .error e ∧ PE e ch ∧ G = Gx)
section
variable {P : Program} {f : FuncId} {args : List Value} {Pre Gx : List ad} {α : Type} {E : Except Int α} {R : α → Value → List ad → Prop}
theorem aA.ok {x : α} (h : aA P f args Pre (gB E R Gx)) (hE : E = .ok x) : aA P f args Pre (aF (R x)) := h.mono fun e G h => by
  rcases h with ⟨v, rfl, x', h1, h2⟩ | ⟨ch, rfl, e', h1, _⟩
  · rw [hE] at h1; cases h1; exact ⟨v, rfl, h2⟩
  · rw [hE] at h1; cases h1
theorem aA.err {e : Int} (h : aA P f args Pre (gB E R Gx)) (hE : E = .error e) : aA P f args Pre (re fun ch G => PE e ch ∧ G = Gx) := h.mono fun e' G h => by
  rcases h with ⟨v, rfl, x', h1, h2⟩ | ⟨ch, rfl, e', h1, h2⟩
  · rw [hE] at h1; cases h1
  · rw [hE] at h1; cases h1; exact ⟨ch, rfl, h2⟩
variable {C : Ctx} {Q : QT} {En : Env} {L F G : List ad} {rs : Array ResultVar} {v : Value} {ch : List PanicEntry}
theorem jU {x : α} (hE : E = .ok x) (hr : kp C rs En L v) (hR : R x v G) (hs : Sub L (G ++ F)) : n4 C rs F (gB E R Gx) .ret En L := ⟨v, G, hr, .inl ⟨v, rfl, x, hE, hR⟩, hs⟩
theorem gr {x : α} (hE : E = .ok x) (hr : kp C rs En L v) (hR : R x v G) (hs : Sub L (G ++ F)) : n4 C rs F (gB E R Gx) .normal En L := ⟨v, G, hr, .inl ⟨v, rfl, x, hE, hR⟩, hs⟩
theorem dq {e : Int} (hE : E = .error e) (hp : PE e ch) (hs : Sub L (Gx ++ F)) : n4 C rs F (gB E R Gx) (.panic ch) En L := ⟨Gx, .inr ⟨ch, rfl, e, hE, hp, rfl⟩, hs⟩
theorem kr {e : Int} (hE : E = .error e) (hp : PE e ch) (hs : Sub L (Gx ++ F)) : ∃ G, gB E R Gx (.panicked ch) G ∧ Sub L (G ++ F) := ⟨Gx, .inr ⟨ch, rfl, e, hE, hp, rfl⟩, hs⟩
end
theorem vx {M F : List ad} : Drop (M ++ F) F := by
  induction M with
  | nil => exact .refl
  | cons a M ih => exact .skip ih
theorem wg {a0 : ad} {M F : List ad} : Drop (a0 :: (M ++ F)) F := .skip vx
end Go.Sl
namespace Go.Proofs.YtmaiakpjgomnpaaGreat
open Go.Sl
theorem V.a194 : fX Tryz.prog 194 = some 0 := by kernel_rfl
theorem V.a229 : fX Tryz.prog 229 = some 16 := by kernel_rfl
theorem V.XS : fX Tryz.prog 237 = some 0 := by kernel_rfl
theorem V.MA : fX Tryz.prog 246 = some 2 := by kernel_rfl
theorem V.Xu : fX Tryz.prog 279 = some 2 := by kernel_rfl
theorem V.qJ : iA Tryz.prog 229 = some (16, 3, 1) := by kernel_rfl
theorem V.BX : iA Tryz.prog 246 = some (2, 3, 1) := by kernel_rfl
theorem V.WR : ay Tryz.prog 103 = true := by kernel_rfl
theorem V.Mu : ay Tryz.prog 118 = true := by kernel_rfl
theorem V.W7 : ay Tryz.prog 119 = true := by kernel_rfl
theorem V.MQ : ay Tryz.prog 128 = true := by kernel_rfl
theorem V.Xa : ay Tryz.prog 135 = true := by kernel_rfl
theorem V.NG : ay Tryz.prog 145 = true := by kernel_rfl
theorem V.ug : ay Tryz.prog 146 = true := by kernel_rfl
theorem V.WT : ay Tryz.prog 147 = true := by kernel_rfl
theorem V.Pb : ay Tryz.prog 148 = true := by kernel_rfl
theorem V.OP : ay Tryz.prog 149 = true := by kernel_rfl
theorem V.Om : ay Tryz.prog 150 = true := by kernel_rfl
theorem V.XN : ay Tryz.prog 160 = true := by kernel_rfl
theorem V.Xf : ay Tryz.prog 166 = true := by kernel_rfl
theorem V.OO : ay Tryz.prog 167 = true := by kernel_rfl
theorem V.NP : ay Tryz.prog 168 = true := by kernel_rfl
theorem V.Nw : ay Tryz.prog 169 = true := by kernel_rfl
theorem V.W2 : ay Tryz.prog 170 = true := by kernel_rfl
theorem V.R6 : ay Tryz.prog 178 = true := by kernel_rfl
theorem V.uE : ay Tryz.prog 179 = true := by kernel_rfl
theorem V.MH : ay Tryz.prog 180 = true := by kernel_rfl
theorem V.OM : ay Tryz.prog 181 = true := by kernel_rfl
theorem V.LR : ay Tryz.prog 182 = true := by kernel_rfl
theorem V.ef : ay Tryz.prog 183 = true := by kernel_rfl
theorem V.PV : ay Tryz.prog 195 = true := by kernel_rfl
theorem V.kO : ay Tryz.prog 197 = true := by kernel_rfl
theorem V.WZ : ay Tryz.prog 198 = true := by kernel_rfl
theorem V.Xg : ay Tryz.prog 199 = true := by kernel_rfl
theorem V.P8 : ay Tryz.prog 200 = true := by kernel_rfl
theorem V.pX : ay Tryz.prog 201 = true := by kernel_rfl
theorem V.Sm : ay Tryz.prog 202 = true := by kernel_rfl
theorem V.PQ : ay Tryz.prog 203 = true := by kernel_rfl
theorem V.XB : ay Tryz.prog 204 = true := by kernel_rfl
theorem V.XE : ay Tryz.prog 215 = true := by kernel_rfl
theorem V.Xj : ay Tryz.prog 216 = true := by kernel_rfl
theorem V.XC : ay Tryz.prog 217 = true := by kernel_rfl
theorem V.Xw : ay Tryz.prog 218 = true := by kernel_rfl
theorem V.BI : ay Tryz.prog 220 = true := by kernel_rfl
theorem V.mS : ay Tryz.prog 221 = true := by kernel_rfl
theorem V.WN : ay Tryz.prog 222 = true := by kernel_rfl
theorem V.Ml : ay Tryz.prog 223 = true := by kernel_rfl
theorem V.W9 : ay Tryz.prog 229 = true := by kernel_rfl
theorem V.L7 : ay Tryz.prog 230 = true := by kernel_rfl
theorem V.PY : ay Tryz.prog 245 = true := by kernel_rfl
theorem V.Bb : ay Tryz.prog 246 = true := by kernel_rfl
theorem V.Xs : ay Tryz.prog 253 = true := by kernel_rfl
theorem V.Fy : ay Tryz.prog 256 = true := by kernel_rfl
theorem V.Yt : ay Tryz.prog 63 = true := by kernel_rfl
theorem V.zV : ay Tryz.prog 91 = true := by kernel_rfl
theorem V.NM : ay Tryz.prog 92 = true := by kernel_rfl
theorem V.BU : lC Tryz.prog 194 = true := by kernel_rfl
theorem V.Fq : lC Tryz.prog 237 = true := by kernel_rfl
theorem V.C0 : lC Tryz.prog 27 = true := by kernel_rfl
theorem V.DF : a8 Tryz.prog 156 0 = some 0 := by kernel_rfl
theorem V.xd : a8 Tryz.prog 156 2 = some 2 := by kernel_rfl
theorem V.gv : a8 Tryz.prog 223 0 = some 0 := by kernel_rfl
theorem V.NQ : a8 Tryz.prog 223 1 = some 1 := by kernel_rfl
theorem V.uS : a8 Tryz.prog 223 10 = some 10 := by kernel_rfl
theorem V.XY : a8 Tryz.prog 223 11 = some 11 := by kernel_rfl
theorem V.qP : a8 Tryz.prog 223 12 = some 12 := by kernel_rfl
theorem V.Ev : a8 Tryz.prog 223 2 = some 2 := by kernel_rfl
theorem V.js : a8 Tryz.prog 223 3 = some 3 := by kernel_rfl
theorem V.xe : a8 Tryz.prog 223 4 = some 4 := by kernel_rfl
theorem V.RJ : a8 Tryz.prog 223 5 = some 5 := by kernel_rfl
theorem V.YE : a8 Tryz.prog 223 6 = some 6 := by kernel_rfl
theorem V.Yn : a8 Tryz.prog 223 7 = some 7 := by kernel_rfl
theorem V.YG : a8 Tryz.prog 223 8 = some 8 := by kernel_rfl
theorem V.xa : a8 Tryz.prog 223 9 = some 9 := by kernel_rfl
theorem V.yN : a8 Tryz.prog 236 0 = some 0 := by kernel_rfl
theorem V.X6 : a8 Tryz.prog 275 0 = some 0 := by kernel_rfl
theorem V.xm : a8 Tryz.prog 275 1 = some 1 := by kernel_rfl
theorem V.M4 : a8 Tryz.prog 275 2 = some 17 := by kernel_rfl
theorem V.YF : a8 Tryz.prog 275 3 = some 18 := by kernel_rfl
theorem V.mixed : Tryz.prog.follows .mixedOrders = true := by kernel_rfl
theorem V.Tg : eF Tryz.prog 156 = some [(0, 1), (1, 1), (2, 1), (3, 1)] := by kernel_rfl
theorem V.SP : eF Tryz.prog 194 = some [] := by kernel_rfl
theorem V.SX : eF Tryz.prog 223 = some [(0, 1), (1, 1), (2, 1), (3, 1), (4, 1), (5, 1), (6, 1), (7, 1), (8, 1), (9, 1), (10, 1), (11, 1), (12, 1)] := by kernel_rfl
theorem V.Ue : eF Tryz.prog 236 = some [(0, 4)] := by kernel_rfl
theorem V.T5 : eF Tryz.prog 237 = some [] := by kernel_rfl
theorem V.TU : eF Tryz.prog 275 = some [(0, 1), (1, 16), (17, 1), (18, 1)] := by kernel_rfl
theorem V.T7 : eF Tryz.prog 279 = some [(0, 1), (1, 1)] := by kernel_rfl
theorem V.r4 : cg Tryz.prog 204 = true := by kernel_rfl
theorem V.fT : cg Tryz.prog 219 = true := by kernel_rfl
theorem V.jw : cg Tryz.prog 22 = true := by kernel_rfl
theorem V.yA : cg Tryz.prog 221 = true := by kernel_rfl
theorem V.Et : cg Tryz.prog 27 = true := by kernel_rfl
theorem V.Xh : cg Tryz.prog 273 = true := by kernel_rfl
theorem V.s3 : cg Tryz.prog 3 = true := by kernel_rfl
theorem V.s4 : cg Tryz.prog 4 = true := by kernel_rfl
theorem V.lZ : cg Tryz.prog 47 = true := by kernel_rfl
theorem V.s5 : cg Tryz.prog 5 = true := by kernel_rfl
theorem V.bE : sliceB Tryz.prog 22 = some (5, 1, 1) := by kernel_rfl
theorem V.HX : sliceB Tryz.prog 247 = some (246, 2, 16) := by kernel_rfl
theorem V.Ij : sliceB Tryz.prog 273 = some (279, 2, 16) := by kernel_rfl
theorem V.cH : sliceB Tryz.prog 47 = some (3, 1, 8) := by kernel_rfl
theorem V.u3 : iL Tryz.prog 3 = true := by kernel_rfl
theorem V.u5 : iL Tryz.prog 5 = true := by kernel_rfl
theorem V.Ye : iL Tryz.prog 52 = true := by kernel_rfl
theorem V.AY : iL Tryz.prog 76 = true := by kernel_rfl
theorem V.z156 : cx Tryz.prog 156 = some ([.slice none 0 0, .slice none 0 0, .int .i64 0, .int .i64 0]) := by kernel_rfl
theorem V.z194 : cx Tryz.prog 194 = some ([]) := by kernel_rfl
theorem V.WC : cx Tryz.prog 223 = some ([.pointer none, .int .i64 0, .int .i64 0, .slice none 0 0, .bool false, .int .i64 0, .int .i64 0, .int .i64 0, .bool false, .pointer none, .pointer none, .int .i64 0, .int .i64 0]) := by kernel_rfl
theorem V.z236 : cx Tryz.prog 236 = some ([.slice none 0 0, .slice none 0 0, .int .i64 0, .int .i64 0]) := by kernel_rfl
theorem V.Ry : cx Tryz.prog 237 = some ([]) := by kernel_rfl
theorem V.F3 : cx Tryz.prog 246 = some ([.int .i64 0, .int .i64 0]) := by kernel_rfl
theorem V.Ut : cx Tryz.prog 27 = some ([.int .i64 0]) := by kernel_rfl
theorem V.Xq : cx Tryz.prog 275 = some ([.slice none 0 0, .int .i64 0, .int .i64 0, .int .i64 0, .int .i64 0, .int .i64 0, .int .i64 0, .int .i64 0, .int .i64 0, .int .i64 0, .int .i64 0, .int .i64 0, .int .i64 0, .int .i64 0, .int .i64 0, .int .i64 0, .int .i64 0, .slice none 0 0, .int .i64 0]) := by kernel_rfl
theorem V.Np : cx Tryz.prog 279 = some ([.int .i64 0, .int .i64 0]) := by kernel_rfl
theorem V.z3 : cx Tryz.prog 3 = some ([.int .i64 0]) := by kernel_rfl
theorem V.z5 : cx Tryz.prog 5 = some ([.int .u8 0]) := by kernel_rfl
end Go.Proofs.YtmaiakpjgomnpaaGreat
namespace Go.Proofs.YtmaiakpjgomnpaaGreat
open Go.Sl
theorem TT : jH Tryz.prog ⟨[22, 24, 47, 59, 64, 84, 140, 247], [(26, 0, 0), (26, 1, 1), (26, 2, 2), (35, 0, 0), (35, 1, 1), (35, 2, 2), (35, 3, 3), (35, 4, 4), (38, 0, 0), (38, 1, 1), (38, 2, 2), (38, 3, 3), (38, 4, 4), (50, 0, 0), (50, 1, 1), (57, 0, 0), (57, 1, 1), (67, 0, 0), (67, 1, 1), (67, 2, 2), (67, 3, 3), (67, 4, 4), (67, 5, 5), (88, 0, 0), (88, 1, 1), (90, 0, 0), (90, 1, 5), (90, 2, 6), (90, 3, 7), (90, 4, 8), (137, 0, 0), (137, 1, 1), (137, 2, 2), (137, 3, 3), (145, 0, 0), (145, 1, 1), (145, 2, 2), (145, 3, 3), (145, 4, 4), (145, 5, 5), (151, 0, 0), (151, 1, 1), (151, 2, 2), (151, 3, 3), (156, 0, 0), (156, 2, 2), (158, 0, 0), (175, 0, 0), (223, 0, 0), (223, 3, 3), (223, 4, 4), (223, 5, 5), (223, 6, 6), (223, 7, 7), (223, 8, 8), (223, 9, 9), (223, 10, 10), (223, 11, 11), (223, 12, 12), (231, 0, 0), (231, 1, 16), (236, 0, 0), (275, 0, 0), (275, 1, 1), (275, 2, 17), (275, 3, 18)]⟩ = true := by kernel_rfl
end Go.Proofs.YtmaiakpjgomnpaaGreat
