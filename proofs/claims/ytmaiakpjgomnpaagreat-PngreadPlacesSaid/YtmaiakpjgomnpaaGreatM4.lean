/- Walks of functions that the law reaches, and what they lean on; no conditions. -/
import Derived.Test.YtmaiakpjgomnpaaGreatM3
import Derived.Test.YtmaiakpjgomnpaaGreatM2
import Derived.Test.YtmaiakpjgomnpaaGreatM1
import Derived.Test.YtmaiakpjgomnpaaGreatProg
import Derived.KernelRfl
set_option linter.unusedVariables false
set_option linter.unusedSimpArgs false
set_option maxRecDepth 100000
namespace Go.aa
open Go.af Go.ad
theorem pE : ∀ (f : Nat) {B : List Int}, B.length ≤ 65535 * (f + 1) → ak B → ∀ X ∈ aJ.il f B, X.length ≤ 65535 ∧ ak X
  | 0, B, h, hB, X, hX => by
    simp only [aJ.il, List.mem_singleton] at hX
    subst hX
    exact ⟨by omega, hB⟩
  | f + 1, B, h, hB, X, hX => by
    unfold aJ.il at hX
    split at hX
    · simp only [List.mem_singleton] at hX
      subst hX
      exact ⟨by omega, hB⟩
    · rcases List.mem_cons.1 hX with rfl | hX
      · exact ⟨by rw [List.length_take]; omega, fun x hx => hB x (List.mem_of_mem_take hx)⟩
      · exact pE f (by rw [List.length_drop]; omega) (fun x hx => hB x (List.mem_of_mem_drop hx)) X hX
theorem Ao {B : List Int} (hl : B.length ≤ 4194304) (hB : ak B) : ak (aJ.gI B) := si _ (pE 64 (by omega) hB)
theorem Se {B : List Int} {mo mo' : Int} {q : List Int × Int × Int} (hB : ak B) (h : iS B mo q) (he : q.2.2 = 0) (hl : (q.1.length : Int) ≤ mo') : iS B mo' q := by
  rcases h with ⟨_, rfl⟩ | ⟨h0, o, ho, rfl⟩
  · exact absurd he (by decide)
  · cases o with
    | error e => exact absurd he (L5 ho rfl)
    | ok p =>
      obtain ⟨x, n⟩ := p
      exact .inr ⟨by have : (x.length : Int) ≤ mo' := hl; omega, _, (Bg hB ho (og h0) x n rfl).2.1 hl, rfl⟩
def cP (B : List Int) : List Int := [120, 1] ++ aJ.gI B ++ aH.jP B
theorem AM (B : List Int) : cP B = 120 :: 1 :: (aJ.gI B ++ aH.jP B) := by simp [cP]
theorem nj {B : List Int} (h : B.length ≤ 4194304) : (cP B).length = B.length + 5 * ((B.length - 1) / 65535 + 1) + 6 := by
  simp only [cP, List.length_append, aJ.u4 h, aH.uX, List.length_cons, List.length_nil]; omega
theorem Dq {B : List Int} {mo : Int} (hB : ak B) (hl : B.length ≤ 4194304) (hm : (B.length : Int) ≤ mo) : aH.lZ (cP B) mo (B, 0) := by
  have hs := aJ.u4 hl
  have hr := (aJ.KX (t := aH.jP B) hl hB (aH.q9 B)).1
  have hb : ak (aJ.gI B ++ aH.jP B) := aJ.ak.app (Ao hl hB) (aH.q9 B)
  rw [AM]
  refine .inr (.inr ⟨by simp [aH.uX], aH.Ug, _, Se hb hr rfl hm, ?_⟩)
  have e1 : (aJ.gI B ++ aH.jP B).length - (aJ.gI B).length = 4 := by rw [List.length_append, aH.uX]; omega
  have e2 : (aJ.gI B ++ aH.jP B).drop (aJ.gI B).length = aH.jP B := List.drop_left
  simp only [aH.fin, List.drop_succ_cons, List.drop_zero, Int.toNat_natCast, not_true_eq_false, if_false, e1, e2]
  rw [if_neg (by decide), if_neg (by decide), if_pos trivial]
theorem Dx {B : List Int} (hB : ak B) (hl : B.length ≤ 4194304) : ak (cP B) := by
  rw [AM]
  exact aH.jZ (by decide) (aH.jZ (by decide) (aJ.ak.app (Ao hl hB) (aH.q9 B)))
end Go.aa
namespace Go.aa
open Go.af
def two (l : List Int) : List Int := l.flatMap fun s => [s / 256, s % 256]
theorem Ar (l : List Int) : (two l).length = 2 * l.length := by
  induction l with
  | nil => rfl
  | cons a l ih => simp only [two, List.flatMap_cons, List.length_append, List.length_cons, List.length_nil] at ih ⊢; omega
theorem AT : ∀ (l : List Int) (m : Nat), m < l.length → (two l).getD (2 * m) 0 = l.getD m 0 / 256 ∧ (two l).getD (2 * m + 1) 0 = l.getD m 0 % 256
  | [], m, h => by simp at h
  | a :: l, 0, _ => ⟨rfl, rfl⟩
  | a :: l, m + 1, h => by
    have ih := AT l m (by simpa using h)
    have e : two (a :: l) = (a / 256) :: (a % 256) :: two l := rfl
    rw [e, show 2 * (m + 1) = 2 * m + 1 + 1 by omega, show 2 * m + 1 + 1 + 1 = (2 * m + 1) + 1 + 1 by omega]
    simpa using ih
def ue (l : List Int) : Prop := ∀ x ∈ l, 0 ≤ x ∧ x < 65536
theorem ue.get {l : List Int} (h : ue l) (i : Nat) : 0 ≤ l.getD i 0 ∧ l.getD i 0 < 65536 := by
  rcases Nat.lt_or_ge i l.length with k | k
  · rw [List.getD_eq_getElem?_getD, List.getElem?_eq_getElem k]; exact h _ (List.getElem_mem k)
  · rw [List.getD_eq_getElem?_getD, List.getElem?_eq_none k]; decide
theorem uW {l : List Int} (h : ue l) : ak (two l) := fun x hx => by
  obtain ⟨s, hs, hx⟩ := List.mem_flatMap.1 hx
  have := h s hs
  simp only [List.mem_cons, List.not_mem_nil, or_false] at hx
  rcases hx with rfl | rfl <;> omega
def ib (P : List Int) (W y : Nat) : List Int := two ((P.drop (4 * W * y)).take (4 * W))
def bY (P : List Int) (W : Nat) : Nat → List Int
  | 0 => []
  | y + 1 => bY P W y ++ (0 :: ib P W y)
theorem xp {P : List Int} {W H y : Nat} (hP : P.length = 4 * W * H) (hy : y < H) : (ib P W y).length = 8 * W := by
  have : 4 * W * (y + 1) ≤ 4 * W * H := Nat.mul_le_mul_left _ hy
  rw [Nat.mul_succ] at this
  rw [ib, Ar, List.length_take, List.length_drop]; omega
theorem rW {P : List Int} {W H : Nat} (hP : P.length = 4 * W * H) : ∀ y, y ≤ H → (bY P W y).length = y * (1 + 8 * W)
  | 0, _ => by simp [bY]
  | y + 1, h => by
    have e : (y + 1) * (1 + 8 * W) = y * (1 + 8 * W) + (1 + 8 * W) := Nat.succ_mul _ _
    rw [bY, List.length_append, rW hP y (by omega), List.length_cons, xp hP (by omega), e]; omega
theorem rK (P : List Int) (W y : Nat) : ∀ k, ∃ r, bY P W (y + k) = bY P W y ++ r
  | 0 => ⟨[], by simp⟩
  | k + 1 => by
    obtain ⟨r, h⟩ := rK P W y k
    exact ⟨r ++ (0 :: ib P W (y + k)), by rw [← Nat.add_assoc, bY, h, List.append_assoc]⟩
theorem Lw {P : List Int} {W H y : Nat} (hP : P.length = 4 * W * H) (hy : y < H) : (bY P W H).getD (y * (1 + 8 * W)) 0 = 0 ∧ ((bY P W H).drop (y * (1 + 8 * W) + 1)).take (8 * W) = ib P W y := by
  obtain ⟨r, h⟩ := rK P W (y + 1) (H - (y + 1))
  rw [show y + 1 + (H - (y + 1)) = H by omega, bY, List.append_assoc, List.cons_append] at h
  have hl := rW hP y (by omega)
  have hr := xp hP hy
  rw [h]
  constructor
  · rw [List.getD_eq_getElem?_getD, List.getElem?_append_right (by omega), hl, Nat.sub_self]; rfl
  · rw [← List.drop_drop, ← hl, List.drop_left, List.drop_succ_cons, List.drop_zero, ← hr, List.take_left]
theorem ot {P : List Int} (W : Nat) (h : ue P) : ∀ y, ak (bY P W y)
  | 0 => fun x hx => by cases hx
  | y + 1 => aJ.ak.app (ot W h y) (aH.jZ (by decide) (uW (fun x hx => h x (List.mem_of_mem_drop (List.mem_of_mem_take hx)))))
end Go.aa
namespace Go.aa
open Go.af
theorem Jx {row above : List Int} {back : Nat} (h : ak row) : eJ 0 row above back = row := by
  have e : ∀ i, i ≤ row.length → iD 0 row above back i = row.take i := by
    intro i
    induction i with
    | zero => intro _; simp [iD]
    | succ i ih =>
      intro hi
      have hb := h.get i
      rw [iD, ih (by omega), ad.gR (by omega)]
      have e0 : ∀ a b c : Int, mO 0 a b c = 0 := fun a b c => by unfold mO; simp
      have e1 : jt 0 row above back (row.take i) i = row.getD i 0 := by
        unfold jt
        rw [e0, Int.add_zero]
        omega
      rw [e1]
  rw [eJ, e _ (Nat.le_refl _), List.take_length]
def fo (w h : Int) : Hd := ⟨w, h, 16, 6, false⟩
theorem Mb {P : List Int} {W H y m : Nat} (hP : P.length = 4 * W * H) (hy : y < H) (hm : m < 4 * W) : (ib P W y).getD (2 * m) 0 = P.getD (4 * W * y + m) 0 / 256 ∧ (ib P W y).getD (2 * m + 1) 0 = P.getD (4 * W * y + m) 0 % 256 := by
  have hle : 4 * W * (y + 1) ≤ 4 * W * H := Nat.mul_le_mul_left _ hy
  rw [Nat.mul_succ] at hle
  have hl : ((P.drop (4 * W * y)).take (4 * W)).length = 4 * W := by rw [List.length_take, List.length_drop]; omega
  have h := AT ((P.drop (4 * W * y)).take (4 * W)) m (by omega)
  have e : ((P.drop (4 * W * y)).take (4 * W)).getD m 0 = P.getD (4 * W * y + m) 0 := by
    rw [List.getD_eq_getElem?_getD, List.getD_eq_getElem?_getD, List.getElem?_take_of_lt hm, List.getElem?_drop]
  rw [e] at h
  exact h
theorem Nv {P : List Int} {W H y x : Nat} (w h : Int) (hU : ue P) (hP : P.length = 4 * W * H) (hy : y < H) (hx : x < W) : dJ (fo w h) (ib P W y) x = [P.getD (4 * (W * y + x)) 0, P.getD (4 * (W * y + x) + 1) 0, P.getD (4 * (W * y + x) + 2) 0, P.getD (4 * (W * y + x) + 3) 0] := by
  have hb : ak (ib P W y) := uW (fun z hz => hU z (List.mem_of_mem_drop (List.mem_of_mem_take hz)))
  have e : ∀ i, i < 4 → bM (ib P W y) (x * 4 * 16 + i * 16) 16 = P.getD (4 * (W * y + x) + i) 0 := fun i hi => by
    have g := Mb (m := 4 * x + i) hP hy (by omega)
    have hu := hU.get (4 * W * y + (4 * x + i))
    have h16 := qy (hb.get (8 * x + 2 * i)) (hb.get (8 * x + 2 * i + 1))
    rw [show 8 * x + 2 * i = 2 * (4 * x + i) by omega, g.1, g.2] at h16
    rw [show x * 4 * 16 + i * 16 = 8 * (2 * (4 * x + i)) by omega, h16]
    have e3 : 4 * W * y + (4 * x + i) = 4 * (W * y + x) + i := by rw [Nat.mul_add, ← Nat.mul_assoc]; omega
    rw [e3] at hu ⊢
    omega
  have hp : dJ (fo w h) (ib P W y) x = [bM (ib P W y) (x * 4 * 16 + 0 * 16) 16, bM (ib P W y) (x * 4 * 16 + 1 * 16) 16, bM (ib P W y) (x * 4 * 16 + 2 * 16) 16, bM (ib P W y) (x * 4 * 16 + 3 * 16) 16] := rfl
  rw [hp, e 0 (by decide), e 1 (by decide), e 2 (by decide), e 3 (by decide), Nat.add_zero]
theorem Ub (w h : Int) (plte trns : List Int) (a b c d : Int) : fy ⟨fo w h, plte, trns⟩ [a, b, c, d] = some [a, b, c, d] := by
  have e : ∀ v, R0 (fo w h) v = v := fun v => by
    have : (65535 : Int) / (2 ^ (16 : Int).toNat - 1) = 1 := by decide
    simp only [R0, fo, this, Int.mul_one]
  unfold fy
  simp only [fo] at e ⊢
  rw [if_neg (by decide)]
  have hc : aR ⟨w, h, 16, 6, false⟩ trns = [] := by unfold aR; simp
  simp only [hc, List.length_nil, Nat.lt_irrefl, false_and, if_false, List.map_cons, List.map_nil, e]
  rw [if_neg (by decide)]
  simp
def laid (P : List Int) (k : Nat) : List Int := P.take (4 * k) ++ List.replicate (P.length - 4 * k) 0
theorem xa {P : List Int} {W : Nat} {y x : Nat} (hk : 4 * (W * y + x) + 4 ≤ P.length) : kW (W : Int) (laid P (W * y + x)) (0 + (x : Int) * 1) (0 + (y : Int) * 1) [P.getD (4 * (W * y + x)) 0, P.getD (4 * (W * y + x) + 1) 0, P.getD (4 * (W * y + x) + 2) 0, P.getD (4 * (W * y + x) + 3) 0] = laid P (W * y + (x + 1)) := by
  have e : (4 * ((0 + (y : Int) * 1) * (W : Int) + (0 + (x : Int) * 1))).toNat = 4 * (W * y + x) := by
    have : 4 * ((0 + (y : Int) * 1) * (W : Int) + (0 + (x : Int) * 1)) = ((4 * (W * y + x) : Nat) : Int) := by
      rw [Int.zero_add, Int.zero_add, Int.mul_one, Int.mul_one, Nat.mul_comm W y]; push_cast; rfl
    rw [this]; rfl
  unfold kW
  rw [e, show W * y + (x + 1) = (W * y + x) + 1 from rfl]
  clear e
  generalize W * y + x = k at hk
  have h1 : (laid P k).take (4 * k) = P.take (4 * k) := by
    unfold laid
    exact List.take_left' (by rw [List.length_take]; omega)
  have h2 : (laid P k).drop (4 * k + 4) = List.replicate (P.length - 4 * (k + 1)) 0 := by
    unfold laid
    rw [List.drop_append, List.drop_of_length_le (by rw [List.length_take]; omega), List.nil_append, List.length_take, List.drop_replicate]
    congr 1
    omega
  rw [h1, h2]
  unfold laid
  congr 1
  have h3 : P.take (4 * (k + 1)) = P.take (4 * k) ++ [P.getD (4 * k) 0] ++ [P.getD (4 * k + 1) 0] ++ [P.getD (4 * k + 2) 0] ++ [P.getD (4 * k + 3) 0] := by
    rw [show 4 * (k + 1) = 4 * k + 1 + 1 + 1 + 1 by omega, ad.gR (by omega), ad.gR (by omega), ad.gR (by omega), ad.gR (by omega)]
  rw [h3]
  simp
theorem EB {P : List Int} {W H y : Nat} (w h : Int) (plte trns : List Int) (p : Ps) (hp : p.x = 0 ∧ p.y = 0 ∧ p.dx = 1 ∧ p.dy = 1) (hw : w = (W : Int)) (hU : ue P) (hP : P.length = 4 * W * H) (hy : y < H) : ∀ k i, i + k = W → dS ⟨fo w h, plte, trns⟩ p (y : Int) (ib P W y) k i (laid P (W * y + i)) = some (laid P (W * y + W))
  | 0, i, hi => by rw [dS, show i = W by omega]
  | k + 1, i, hi => by
    have hle : 4 * W * (y + 1) ≤ 4 * W * H := Nat.mul_le_mul_left _ hy
    rw [Nat.mul_succ, Nat.mul_assoc] at hle
    rw [dS, Nv w h hU hP hy (by omega), Ub]
    simp only [hp.1, hp.2.1, hp.2.2.1, hp.2.2.2]
    have e : (fo w h).w = (W : Int) := hw
    rw [e, xa (by omega)]
    exact EB w h plte trns p hp hw hU hP hy k (i + 1) (by omega)
theorem AN {P : List Int} {W H : Nat} (w h : Int) (plte trns : List Int) (p : Ps) (hp : p.x = 0 ∧ p.y = 0 ∧ p.dx = 1 ∧ p.dy = 1) (hpw : p.w = (W : Int)) (hw : w = (W : Int)) (hU : ue P) (hP : P.length = 4 * W * H) : ∀ k y above, y + k = H → eg ⟨fo w h, plte, trns⟩ (bY P W H) (8 * W) 8 p k y (y * (1 + 8 * W)) above (laid P (W * y)) = some (H * (1 + 8 * W), laid P (W * H))
  | 0, y, above, hy => by rw [eg, show y = H by omega]
  | k + 1, y, above, hy => by
    have ha := Lw hP (show y < H by omega)
    have hb : ak (ib P W y) := uW (fun z hz => hU z (List.mem_of_mem_drop (List.mem_of_mem_take hz)))
    rw [eg, ha.1, if_neg (by decide), ha.2, Jx hb]
    have hpn : p.w.toNat = W := by rw [hpw]; rfl
    have hr := EB w h plte trns p hp hw hU hP (show y < H by omega) W 0 (by omega)
    rw [Nat.add_zero] at hr
    rw [hpn, hr]
    simp only
    have e : y * (1 + 8 * W) + 1 + 8 * W = (y + 1) * (1 + 8 * W) := by rw [Nat.succ_mul y (1 + 8 * W)]; omega
    rw [e, show W * y + W = W * (y + 1) from (Nat.mul_succ _ _).symm]
    exact AN w h plte trns p hp hpw hw hU hP k (y + 1) (ib P W y) (by omega)
theorem M6 {P : List Int} {W H : Nat} (plte trns : List Int) (hU : ue P) (hP : P.length = 4 * W * H) : eu ⟨fo (W : Int) (H : Int), plte, trns⟩ (bY P W H) (whole (W : Int) (H : Int)) 0 (laid P 0) = some P := by
  have e1 : (dv (W : Int) (bitsOf (fo (W : Int) (H : Int)))).toNat = 8 * W := by
    have : bitsOf (fo (W : Int) (H : Int)) = 64 := rfl
    rw [this]; unfold dv; omega
  have e2 : (max 1 (bitsOf (fo (W : Int) (H : Int)) / 8)).toNat = 8 := rfl
  have h := AN (W : Int) (H : Int) plte trns ⟨0, 0, 1, 1, (W : Int), (H : Int)⟩ ⟨rfl, rfl, rfl, rfl⟩ rfl rfl hU hP H 0 [] (by omega)
  rw [Nat.zero_mul, Nat.mul_zero] at h
  have e3 : laid P (W * H) = P := by
    unfold laid
    rw [← Nat.mul_assoc, ← hP, List.take_length, Nat.sub_self]
    simp
  rw [e3] at h
  unfold whole eu
  simp only [e1, e2]
  rw [show ((H : Int)).toNat = H from rfl, h]
  rfl
end Go.aa
namespace Go.aa
open Go.af
theorem Bx : cY bQ := by decide
theorem Cj : cY ba := by decide
theorem JC : cY aY := by decide
theorem TC : cY aN := by decide
theorem TH : cY aS := by decide
theorem RJ : bQ ≠ aY := by decide
theorem R3 : ba ≠ aY := by decide
theorem XK : aN ≠ aY := by decide
theorem XL : aS ≠ aY := by decide
def hB (w h : Int) : List Int := [0, 0, w / 256, w % 256, 0, 0, h / 256, h % 256, 16, 6, 0, 0, 0]
def kE (w h : Int) (z : List Int) : List Ch := [⟨bQ, hB w h⟩, ⟨ba, z⟩, ⟨aY, []⟩]
def eI (P : List Int) (W H : Nat) : List Int := aU (kE (W : Int) (H : Int) (cP (bY P W H)))
structure Sz (P : List Int) (W H : Nat) : Prop where
  w : 1 ≤ W ∧ W ≤ 256
  h : 1 ≤ H ∧ H ≤ 256
  wh : W * H ≤ 16384
  len : P.length = 4 * W * H
  u : ue P
theorem It {W H : Nat} (hw : 1 ≤ W ∧ W ≤ 256) (hh : 1 ≤ H ∧ H ≤ 256) : aL (hB (W : Int) (H : Int)) = fo (W : Int) (H : Int) := by
  unfold aL fo hB
  simp only [aH.cV, List.drop_succ_cons, List.drop_zero, List.getD_cons_zero, List.getD_cons_succ]
  congr 1 <;> first | omega | rfl
theorem Nr {W H : Nat} (hw : 1 ≤ W ∧ W ≤ 256) (hh : 1 ≤ H ∧ H ≤ 256) : ak (hB (W : Int) (H : Int)) := fun x hx => by
  simp only [hB, List.mem_cons, List.not_mem_nil, or_false] at hx
  rcases hx with rfl | rfl | rfl | rfl | rfl | rfl | rfl | rfl | rfl | rfl | rfl | rfl | rfl <;> omega
theorem Fh {W H : Nat} (hw : 1 ≤ W ∧ W ≤ 256) (hh : 1 ≤ H ∧ H ≤ 256) (hwh : W * H ≤ 16384) : aW (W : Int) (H : Int) = 0 := by
  unfold aW
  have : (W : Int) ≤ 16384 / (H : Int) := by
    rw [Int.le_ediv_iff_mul_le (by omega)]
    have h2 : ((W * H : Nat) : Int) ≤ 16384 := by omega
    rw [Int.natCast_mul] at h2
    exact h2
  rw [if_neg (by omega), if_neg (by omega)]
theorem Yh {W H : Nat} (hw : 1 ≤ W ∧ W ≤ 256) (hh : 1 ≤ H ∧ H ≤ 256) (hwh : W * H ≤ 16384) : eF (hB (W : Int) (H : Int)) = 0 := by
  unfold eF
  rw [It hw hh]
  have e1 : (fo (W : Int) (H : Int)).w = (W : Int) := rfl
  have e2 : (fo (W : Int) (H : Int)).h = (H : Int) := rfl
  have e3 : deep (fo (W : Int) (H : Int)).ar (fo (W : Int) (H : Int)).dep := show deep 6 16 by decide
  have e4 : (hB (W : Int) (H : Int)).getD 10 0 = 0 := rfl
  have e5 : (hB (W : Int) (H : Int)).getD 11 0 = 0 := rfl
  have e6 : (hB (W : Int) (H : Int)).getD 12 0 = 0 := rfl
  rw [if_neg (by unfold hB; simp), e1, e2, e4, e5, e6, if_neg (by rintro (h | h | h | h | h); exact h e3; omega; omega; omega; omega), Fh hw hh hwh, if_pos rfl]
theorem Kb (w h : Int) (z : List Int) : cD (kE w h z) = true := by
  have e : walk (((kE w h z).drop 1).take ((kE w h z).length - 2)) ⟨false, false, false, false⟩ = some ⟨false, false, true, false⟩ := rfl
  unfold cD
  rw [e]
  rfl
theorem Kp (w h : Int) (z : List Int) : mh (fo w h) (bu (kE w h z) aN) (dX (kE w h z) aN) (bu (kE w h z) aS) (dX (kE w h z) aS) := by
  have e1 : dX (kE w h z) aN = false := rfl
  have e2 : dX (kE w h z) aS = false := rfl
  rw [e1, e2]
  unfold mh
  simp [fo]
theorem GR (w h : Int) (z : List Int) : bW (kE w h z) = z := by
  have : bW (kE w h z) = z ++ [] := rfl
  rw [this, List.append_nil]
theorem AH {P : List Int} {W H : Nat} (s : Sz P W H) : (bY P W H).length = H * (1 + 8 * W) := rW s.len H (Nat.le_refl _)
theorem O2 {W H : Nat} (hw : 1 ≤ W ∧ W ≤ 256) : want (fo (W : Int) (H : Int)) = ((H * (1 + 8 * W) : Nat) : Int) := by
  have e : want (fo (W : Int) (H : Int)) = ([if 0 < (W : Int) then (H : Int) * (1 + dv (W : Int) 64) else 0] : List Int).sum := rfl
  have e2 : dv (W : Int) 64 = 8 * (W : Int) := by unfold dv; omega
  rw [e, if_pos (by omega), e2]
  simp
theorem nb {P : List Int} {W H : Nat} (s : Sz P W H) : (bY P W H).length ≤ 131328 := by
  have h1 := AH s
  have h2 := s.wh
  have h3 := s.h.2
  have e : H * (1 + 8 * W) = H + 8 * (W * H) := by rw [Nat.mul_add, Nat.mul_one, Nat.mul_comm H (8 * W), Nat.mul_assoc]
  omega
theorem sM {P : List Int} {W H : Nat} (s : Sz P W H) : ∀ c ∈ [(⟨bQ, hB (W : Int) (H : Int)⟩ : Ch), ⟨ba, cP (bY P W H)⟩], js c ∧ c.k ≠ aY := fun c hc => by
  have hr := nb s
  have hb := Dx (ot W s.u H) (by omega)
  have hl := nj (B := bY P W H) (by omega)
  simp only [List.mem_cons, List.not_mem_nil, or_false] at hc
  rcases hc with rfl | rfl
  · exact ⟨⟨Bx, Nr s.w s.h, by simp [hB]⟩, RJ⟩
  · exact ⟨⟨Cj, hb, by simp only; omega⟩, R3⟩
theorem nL : js ⟨aY, []⟩ := ⟨JC, aJ.gK, by decide⟩
theorem qn {P : List Int} {W H : Nat} (s : Sz P W H) : (eI P W H).length = 57 + (cP (bY P W H)).length := by
  have e : eI P W H = ee ++ (eA ⟨bQ, hB (W : Int) (H : Int)⟩ ++ (eA ⟨ba, cP (bY P W H)⟩ ++ eA ⟨aY, []⟩)) := by simp [eI, aU, gw, kE]
  rw [e, List.length_append, List.length_append, List.length_append, gN Bx.1, gN Cj.1, gN JC.1]
  simp [ee, hB]
  omega
theorem FH {P : List Int} {W H : Nat} (s : Sz P W H) : cut (eI P W H) = .ok (kE (W : Int) (H : Int) (cP (bY P W H))) := by
  have hr := nb s
  have hl := nj (B := bY P W H) (by omega)
  have hp := qn s
  exact yh (l := [⟨bQ, hB (W : Int) (H : Int)⟩, ⟨ba, cP (bY P W H)⟩]) nL rfl (sM s) (by
    have : (eI P W H).length ≤ 262144 := by omega
    exact this)
theorem EW {P : List Int} {W H : Nat} (s : Sz P W H) : ak (eI P W H) := vJ (fun c hc => by
  have hc : c ∈ [(⟨bQ, hB (W : Int) (H : Int)⟩ : Ch), ⟨ba, cP (bY P W H)⟩] ++ [⟨aY, []⟩] := hc
  rcases List.mem_append.1 hc with h | h
  · exact (sM s c h).1
  · rw [List.mem_singleton.1 h]; exact nL)
theorem FM {P : List Int} {W H : Nat} (s : Sz P W H) : iZ (fo (W : Int) (H : Int)) = laid P 0 := by
  have e : (4 * (W : Int) * (H : Int)).toNat = P.length := by
    have : 4 * (W : Int) * (H : Int) = ((4 * W * H : Nat) : Int) := by push_cast; rfl
    rw [this, s.len]; rfl
  unfold iZ laid
  simp only [fo, e, Nat.mul_zero, List.take_zero, List.nil_append, Nat.sub_zero]
theorem E6 {P : List Int} {W H : Nat} (s : Sz P W H) : jV (eI P W H) (⟨(W : Int), (H : Int), P⟩, 0) := by
  have hr := nb s
  have hrl := AH s
  have hw := O2 (H := H) s.w
  have hd : (((kE (W : Int) (H : Int) (cP (bY P W H))).map Ch.d).getD 0 []) = hB (W : Int) (H : Int) := rfl
  unfold jV
  rw [FH s]
  simp only [hd, It s.w s.h, Yh s.w s.h s.wh, GR]
  rw [if_neg (by rw [Kb]; decide), if_neg (fun h => h rfl), if_neg (fun h => h (Kp _ _ _))]
  have hwant : eY (aO (fo (W : Int) (H : Int))) (bitsOf (fo (W : Int) (H : Int))) = (((bY P W H).length : Nat) : Int) := by rw [hrl]; exact hw
  rw [hwant]
  refine ⟨(bY P W H, 0), Dq (ot W s.u H) (by omega) (Int.le_refl _), ?_⟩
  rw [if_neg (fun h => h rfl), if_neg (Int.lt_irrefl _)]
  have hdr := M6 (bu (kE (W : Int) (H : Int) (cP (bY P W H))) aN) (bu (kE (W : Int) (H : Int) (cP (bY P W H))) aS) s.u s.len
  have h0 := FM s
  unfold iZ at h0
  have hp : aO (fo (W : Int) (H : Int)) = whole (W : Int) (H : Int) := rfl
  rw [hp, h0]
  simp only
  rw [hdr]
  rfl
end Go.aa
namespace Go.aa
open Go.af
theorem vO {x : Int} (h0 : 0 ≤ x ∧ x < 4294967296) : IntKind.u32.wrap ((BitVec.ofInt IntKind.u32.bits x &&& BitVec.ofInt IntKind.u32.bits 1).toNat : Int) = x % 2 := by
  obtain ⟨a, rfl⟩ : ∃ a : Nat, x = (a : Int) := ⟨x.toNat, by omega⟩
  have e : IntKind.u32.bits = 32 := rfl
  have e1 : BitVec.ofInt 32 1 = BitVec.ofInt 32 ((1 : Nat) : Int) := rfl
  rw [e, e1, BitVec.toNat_and, cn, cn, Nat.mod_eq_of_lt (by omega), Nat.mod_eq_of_lt (by omega), Nat.and_one_is_mod, aH.wrap32 (by omega) (by omega)]
  omega
theorem lH {x r : Int} {n : Nat} {d : Int} (hd : d = (n : Int)) (hn : n ≤ 32) (hr : x / 2 ^ n = r) : x.fdiv (2 ^ (min d.toNat IntKind.u32.bits)) = r := by rw [aH.CG hd hn, hr]
theorem fY (n : Int) : IntKind.u8.wrap n = n % 256 := rfl
def fO (k : Nat) (x : Int) : Int := ((jR k x.toNat : Nat) : Int)
theorem Jz {x : Int} (h : 0 ≤ x) : fO 0 x = x := by unfold fO jR; omega
theorem IU (x : Int) : fO 8 x = fK x := rfl
theorem DU {x : Int} (h : 0 ≤ x ∧ x < 4294967296) (k : Nat) : 0 ≤ fO k x ∧ fO k x < 4294967296 := by
  have := CN (x := x.toNat) (by omega) k
  unfold fO; omega
theorem Bj {x : Int} {k : Nat} (h : fO k x % 2 = 1) : fO (k + 1) x = dp (fO k x / 2) 3988292384 := by
  have h2 : jR k x.toNat % 2 = 1 := by unfold fO at h; omega
  have e : ((jR k x.toNat : Nat) : Int) / 2 = ((jR k x.toNat / 2 : Nat) : Int) := by omega
  unfold fO dp
  rw [jR, pn, if_pos h2, e, Int.toNat_natCast]
  rfl
theorem yZ {x : Int} {k : Nat} (h : ¬ fO k x % 2 = 1) : fO (k + 1) x = fO k x / 2 := by
  have h2 : ¬ jR k x.toNat % 2 = 1 := by unfold fO at h; omega
  unfold fO
  rw [jR, pn, if_neg h2]
  omega
def gA (i : Nat) : List Int := (List.range i).map (fun j => fK (j : Nat)) ++ List.replicate (256 - i) 0
def eH : List Int := gA 256
theorem xO {i : Nat} (h : i ≤ 256) : (gA i).length = 256 := by simp [gA]; omega
theorem P1 : gA 0 = List.replicate 256 0 := rfl
theorem HN {i : Nat} (h : i < 256) : (gA i).set i (fK (i : Nat)) = gA (i + 1) := by
  unfold gA
  rw [List.set_append_right _ _ (by simp), List.length_map, List.length_range, Nat.sub_self, show 256 - i = (256 - (i + 1)) + 1 by omega, List.replicate_succ, List.set_cons_zero, List.range_succ, List.map_append]
  simp
theorem F5 {x : Int} (h : 0 ≤ x ∧ x < 256) : eH.getD x.toNat 0 = fK x := by
  obtain ⟨n, rfl⟩ : ∃ n : Nat, x = (n : Int) := ⟨x.toNat, by omega⟩
  have hn : n < 256 := by omega
  have : eH = (List.range 256).map (fun j => fK (j : Nat)) := by unfold eH gA; simp
  rw [this, Int.toNat_natCast, List.getD_eq_getElem?_getD, List.getElem?_map, List.getElem?_range hn]
  rfl
theorem bo {l : List Int} (h : ak l) : ∀ x ∈ l, 0 ≤ x ∧ x < 256 := h
theorem Ll : gA 256 = eH := rfl
theorem fU {l : List Int} (h : ak l) (i : Nat) : ak (l.take i) := fun x hx => h x (List.mem_of_mem_take hx)
theorem LU : eH.length = 256 := xO (Nat.le_refl _)
theorem Pj {a b : Int} (ha : 0 ≤ a ∧ a < 256) (hb : 0 ≤ b ∧ b < 256) : 0 ≤ dp a b ∧ dp a b < 256 := qb (n := 8) ha hb
theorem Km {a b : Int} (ha : 0 ≤ a ∧ a < 4294967296) (hb : 0 ≤ b ∧ b < 4294967296) : 0 ≤ dp a b ∧ dp a b < 4294967296 := qb (n := 32) ha hb
end Go.aa
namespace Go.aa
open Go.af
theorem SB (c : Int) : (97 ≤ c ∧ c ≤ 122) ∨ (97 ≤ c ∧ ¬ c ≤ 122) ∨ (¬ 97 ≤ c ∧ 65 ≤ c ∧ c ≤ 90) ∨ (¬ 97 ≤ c ∧ 65 ≤ c ∧ ¬ c ≤ 90) ∨ (¬ 97 ≤ c ∧ ¬ 65 ≤ c) := by omega
theorem va {k : List Int} {i : Nat} (h : ¬ jL (k.getD i 0)) (hi : i < k.length) : ¬ cY k := fun hn => h (by
  rw [List.getD_eq_getElem?_getD, List.getElem?_eq_getElem hi]
  exact hn.2 _ (List.getElem_mem hi))
theorem AE {k : List Int} (h : ∀ j, j < k.length → jL (k.getD j 0)) : cY k ↔ k.length = 4 := by
  constructor
  · exact fun h => h.1
  · refine fun h4 => ⟨h4, fun c hc => ?_⟩
    obtain ⟨j, hj, rfl⟩ := List.getElem_of_mem hc
    have := h j hj
    rwa [List.getD_eq_getElem?_getD, List.getElem?_eq_getElem hj] at this
theorem SX {k : List Int} {t : Bool} (ht : t = decide (cY k)) (h : ∀ j, j < k.length → jL (k.getD j 0)) : decide ((k.length : Int) = 4) = t := by
  rw [ht]
  have := AE h
  by_cases h4 : k.length = 4
  · rw [decide_eq_true (this.2 h4), decide_eq_true (by omega)]
  · rw [decide_eq_false (fun hh => h4 (this.1 hh)), decide_eq_false (by omega)]
def ac (B : List Int) : Nat → Int
  | 0 => 0
  | i + 1 => ac B i * 256 + B.getD i 0
theorem Xi (B : List Int) : ac B 4 = aH.cV B := by simp only [ac, aH.cV]; omega
theorem TV {B : List Int} (hB : ak B) {i : Nat} (hi : i < 4) : 0 ≤ ac B i ∧ ac B i < 16777216 := by
  have h0 := hB.get 0; have h1 := hB.get 1; have h2 := hB.get 2
  have : i = 0 ∨ i = 1 ∨ i = 2 ∨ i = 3 := by omega
  rcases this with rfl | rfl | rfl | rfl <;> simp only [ac] <;> omega
theorem Dg {B : List Int} {n i : Nat} (h : i < n) : (B.take n).getD i 0 = B.getD i 0 := by
  rw [List.getD_eq_getElem?_getD, List.getD_eq_getElem?_getD, List.getElem?_take_of_lt h]
end Go.aa
namespace Go.aa
open Go.af
theorem zg {L : List Int} (hL : ak L) : (L.length < 12 ∧ first L = .error 2) ∨
    (∃ n : Nat, 12 ≤ L.length ∧ aH.cV L = (n : Int) ∧ n < 4294967296 ∧ 2147483647 < n ∧ first L = .error 4) ∨
    (∃ n : Nat, 12 ≤ L.length ∧ aH.cV L = (n : Int) ∧ n ≤ 2147483647 ∧ ¬ cY ((L.drop 4).take 4) ∧ first L = .error 4) ∨
    (∃ n : Nat, 12 ≤ L.length ∧ aH.cV L = (n : Int) ∧ n ≤ 2147483647 ∧ cY ((L.drop 4).take 4) ∧ L.length < 12 + n ∧ first L = .error 2) ∨
    (∃ n : Nat, 12 ≤ L.length ∧ aH.cV L = (n : Int) ∧ n ≤ 2147483647 ∧ cY ((L.drop 4).take 4) ∧ 12 + n ≤ L.length ∧ aH.cV (L.drop (8 + n)) = gj ((L.drop 4).take 4) ((L.drop 8).take n) ∧ first L = .ok ⟨(L.drop 4).take 4, (L.drop 8).take n⟩) ∨
    (∃ n : Nat, 12 ≤ L.length ∧ aH.cV L = (n : Int) ∧ n ≤ 2147483647 ∧ cY ((L.drop 4).take 4) ∧ 12 + n ≤ L.length ∧ ¬ aH.cV (L.drop (8 + n)) = gj ((L.drop 4).take 4) ((L.drop 8).take n) ∧ first L = .error 5) := by
  rcases PR hL with h | ⟨n, h12, hn, hb, ⟨h1, h2⟩ | ⟨h1, h2, h3⟩ | ⟨h1, h2, h3, h4⟩ | ⟨h1, h2, h3, h4, h5⟩ | ⟨h1, h2, h3, h4, h5⟩⟩
  · exact .inl h
  · exact .inr (.inl ⟨n, h12, hn, hb, h1, h2⟩)
  · exact .inr (.inr (.inl ⟨n, h12, hn, h1, h2, h3⟩))
  · exact .inr (.inr (.inr (.inl ⟨n, h12, hn, h1, h2, h3, h4⟩)))
  · exact .inr (.inr (.inr (.inr (.inl ⟨n, h12, hn, h5, h2, h1, h3, h4⟩))))
  · exact .inr (.inr (.inr (.inr (.inr ⟨n, h12, hn, h5, h2, h1, h3, h4⟩))))
theorem dT {l : List Int} (h : ak l) (i : Nat) : ak (l.drop i) := fun x hx => h x (List.mem_of_mem_drop hx)
theorem j9 {l : List Int} {i n : Nat} (h : i + n ≤ l.length) : ((l.drop i).take n).length = n := by rw [List.length_take, List.length_drop]; omega
end Go.aa
namespace Go.aa
open Go.af
theorem Dd {L : List Int} {x : Ch} (hL : ak L) (h : first L = .ok x) : 12 + x.d.length ≤ L.length ∧ cY x.k ∧ ak x.d := by
  rcases zg hL with ⟨_, h1⟩ | ⟨n, _, _, _, _, h1⟩ | ⟨n, _, _, _, _, h1⟩ | ⟨n, _, _, _, _, _, h1⟩ | ⟨n, _, _, _, h2, h3, _, h1⟩ | ⟨n, _, _, _, _, _, _, h1⟩ <;> rw [h1] at h <;> cases h
  refine ⟨?_, h2, fU (dT hL 8) n⟩
  have := j9 (l := L) (i := 8) (n := n) (by omega)
  show 12 + ((L.drop 8).take n).length ≤ _
  omega
theorem HG {L : List Int} {e : Int} (hL : ak L) (h : first L = .error e) : e ≠ 0 := by
  rcases zg hL with ⟨_, h1⟩ | ⟨n, _, _, _, _, h1⟩ | ⟨n, _, _, _, _, h1⟩ | ⟨n, _, _, _, _, _, h1⟩ | ⟨n, _, _, _, h2, h3, _, h1⟩ | ⟨n, _, _, _, _, _, _, h1⟩ <;> rw [h1] at h <;> cases h <;> decide
theorem Xy {Z : List Int} (hZ : ak Z) : (∃ e, first Z = .error e ∧ e ≠ 0) ∨ (∃ x, first Z = .ok x ∧ 12 + x.d.length ≤ Z.length ∧ cY x.k ∧ ak x.d ∧ x.k ≠ aY) ∨
    (∃ x, first Z = .ok x ∧ 12 + x.d.length = Z.length ∧ cY x.k ∧ ak x.d ∧ x.k = aY) ∨ (∃ x, first Z = .ok x ∧ 12 + x.d.length < Z.length ∧ cY x.k ∧ ak x.d ∧ x.k = aY) := by
  cases h : first Z with
  | error e => exact .inl ⟨e, rfl, HG hZ h⟩
  | ok x =>
    obtain ⟨h1, h2, h3⟩ := Dd hZ h
    by_cases hk : x.k = aY
    · rcases Nat.lt_or_ge (12 + x.d.length) Z.length with h4 | h4
      · exact .inr (.inr (.inr ⟨x, rfl, h4, h2, h3, hk⟩))
      · exact .inr (.inr (.inl ⟨x, rfl, by omega, h2, h3, hk⟩))
    · exact .inr (.inl ⟨x, rfl, h1, h2, h3, hk⟩)
theorem OO {f : Nat} {Z : List Int} {l : List Ch} {e : Int} (h : first Z = .error e) : fx (f + 1) Z l = .error e := by rw [fx, h]
theorem OA {f : Nat} {Z : List Int} {l : List Ch} {x : Ch} (h : first Z = .ok x) (hk : x.k ≠ aY) : fx (f + 1) Z l = fx f (Z.drop (12 + x.d.length)) (l ++ [x]) := by
  rw [fx, h]; simp only; rw [if_neg hk]
theorem RL {f : Nat} {Z : List Int} {l : List Ch} {x : Ch} (h : first Z = .ok x) (hk : x.k = aY) (hl : 12 + x.d.length = Z.length) : fx (f + 1) Z l = .ok (l ++ [x]) := by
  rw [fx, h]; simp only; rw [if_pos hk, if_pos (by omega)]
theorem N0 {f : Nat} {Z : List Int} {l : List Ch} {x : Ch} (h : first Z = .ok x) (hk : x.k = aY) (hl : 12 + x.d.length < Z.length) : fx (f + 1) Z l = .error 4 := by
  rw [fx, h]; simp only; rw [if_pos hk, if_neg (by omega)]
theorem Sh (B : List Int) : (262144 < B.length ∧ cut B = .error 3) ∨ (B.length < 8 ∧ cut B = .error 2) ∨ (B.length ≤ 262144 ∧ 8 ≤ B.length ∧ B.take 8 ≠ ee ∧ cut B = .error 4) ∨ (B.length ≤ 262144 ∧ 8 ≤ B.length ∧ B.take 8 = ee ∧ fx (B.length + 1) (B.drop 8) [] = cut B) := by
  rcases Nat.lt_or_ge 262144 B.length with h | h
  · exact .inl ⟨h, by unfold cut; rw [if_pos h]⟩
  · rcases Nat.lt_or_ge B.length 8 with h2 | h2
    · exact .inr (.inl ⟨h2, by unfold cut; rw [if_neg (by omega), if_pos h2]⟩)
    · by_cases h3 : B.take 8 = ee
      · exact .inr (.inr (.inr ⟨h, h2, h3, by unfold cut; rw [if_neg (by omega), if_neg (by omega), if_pos h3]⟩))
      · exact .inr (.inr (.inl ⟨h, h2, h3, by unfold cut; rw [if_neg (by omega), if_neg (by omega), if_neg h3]⟩))
theorem w8 : ee.length = 8 := rfl
theorem sr : ak ee := by unfold ak; decide
theorem yI : ak aY := by unfold ak; decide
end Go.aa
namespace Go.aa
open Go.af
theorem X0 {p t i o : Bool} {c : Ch} (h : c.k = ba) : bS ⟨p, t, i, o⟩ c = (⟨p, t, true, o⟩, !o) := by unfold bS; rw [if_pos h]
theorem Tv {p i o : Bool} {c : Ch} (h1 : c.k ≠ ba) (h2 : c.k = aN) : bS ⟨p, true, i, o⟩ c = (⟨p, true, i, i⟩, false) := by unfold bS; rw [if_neg h1, if_pos h2]; rfl
theorem Uv {p i o : Bool} {c : Ch} (h1 : c.k ≠ ba) (h2 : c.k = aN) : bS ⟨p, false, i, o⟩ c = (⟨true, false, i, i⟩, !p && !i) := by unfold bS; rw [if_neg h1, if_pos h2]; rfl
theorem XD {p t i o : Bool} {c : Ch} (h1 : c.k ≠ ba) (h2 : c.k ≠ aN) (h3 : c.k = aS) : bS ⟨p, t, i, o⟩ c = (⟨p, true, i, i⟩, !t && !i) := by unfold bS; rw [if_neg h1, if_neg h2, if_pos h3]
theorem GQ {p t i o : Bool} {c : Ch} {r : Bool} (h1 : c.k ≠ ba) (h2 : c.k ≠ aN) (h3 : c.k ≠ aS) (hr : r = (decide (cY c.k) && !decide (fI c.k))) : bS ⟨p, t, i, o⟩ c = (⟨p, t, i, i⟩, r) := by unfold bS; rw [if_neg h1, if_neg h2, if_neg h3, hr]
theorem T1 (k : List Int) (t : Bool) : k = ba ∨ (k ≠ ba ∧ k = aN ∧ t = true) ∨ (k ≠ ba ∧ k = aN ∧ t = false) ∨ (k ≠ ba ∧ k ≠ aN ∧ k = aS) ∨ (k ≠ ba ∧ k ≠ aN ∧ k ≠ aS ∧ ¬ cY k) ∨ (k ≠ ba ∧ k ≠ aN ∧ k ≠ aS ∧ cY k ∧ fI k) ∨ (k ≠ ba ∧ k ≠ aN ∧ k ≠ aS ∧ cY k ∧ ¬ fI k) := by
  by_cases h1 : k = ba
  · exact .inl h1
  · by_cases h2 : k = aN
    · cases t
      · exact .inr (.inr (.inl ⟨h1, h2, rfl⟩))
      · exact .inr (.inl ⟨h1, h2, rfl⟩)
    · by_cases h3 : k = aS
      · exact .inr (.inr (.inr (.inl ⟨h1, h2, h3⟩)))
      · by_cases h4 : cY k
        · by_cases h5 : fI k
          · exact .inr (.inr (.inr (.inr (.inr (.inl ⟨h1, h2, h3, h4, h5⟩)))))
          · exact .inr (.inr (.inr (.inr (.inr (.inr ⟨h1, h2, h3, h4, h5⟩)))))
        · exact .inr (.inr (.inr (.inr (.inl ⟨h1, h2, h3, h4⟩))))
theorem zQ {k : List Int} (h : cY k) : k.length = 4 := h.1
theorem RH {k : List Int} {t : Bool} (ht : t = decide (fI k)) (h : cY k) : t = decide (k.getD 0 0 ≤ 90) := by
  rw [ht]
  by_cases h9 : k.getD 0 0 ≤ 90
  · exact (decide_eq_true (show fI k from ⟨h, h9⟩)).trans (decide_eq_true h9).symm
  · exact (decide_eq_false (fun hh : fI k => h9 hh.2)).trans (decide_eq_false h9).symm
theorem OB {k : List Int} {t : Bool} (ht : t = decide (fI k)) (h : ¬ cY k) : t = false := ht.trans (decide_eq_false (fun hh => h hh.1))
theorem XG {k : List Int} (h : ¬ cY k) : false = (decide (cY k) && !decide (fI k)) := by rw [decide_eq_false h]; rfl
theorem Xm {k : List Int} (h : fI k) : false = (decide (cY k) && !decide (fI k)) := by rw [decide_eq_true h]; simp
theorem X4 {k : List Int} (h : cY k) (h2 : ¬ fI k) : true = (decide (cY k) && !decide (fI k)) := by rw [decide_eq_true h, decide_eq_false h2]; rfl
theorem qR : ak ba := by unfold ak; decide
theorem qw : ak aN := by unfold ak; decide
theorem qB : ak aS := by unfold ak; decide
theorem KC : ak bQ := by unfold ak; decide
def yF : Wk := ⟨false, false, false, false⟩
def mid (l : List Ch) : List Ch := (l.drop 1).take (l.length - 2)
def wid (o : Option Wk) : Bool := match o with | some w => w.bW | none => false
theorem X5 (l : List Ch) : (l.length < 3 ∧ cD l = false) ∨ (3 ≤ l.length ∧ ((l.map Ch.k).getD 0 [] ≠ bQ) ∧ cD l = false) ∨ (3 ≤ l.length ∧ (l.map Ch.k).getD 0 [] = bQ ∧ ¬ ((l.map (·.d.length)).getD 0 0 = 13) ∧ cD l = false) ∨
    (3 ≤ l.length ∧ (l.map Ch.k).getD 0 [] = bQ ∧ (l.map (·.d.length)).getD 0 0 = 13 ∧ (l.map Ch.k).getD (l.length - 1) [] ≠ aY ∧ cD l = false) ∨
    (3 ≤ l.length ∧ (l.map Ch.k).getD 0 [] = bQ ∧ (l.map (·.d.length)).getD 0 0 = 13 ∧ (l.map Ch.k).getD (l.length - 1) [] = aY ∧ ¬ ((l.map (·.d.length)).getD (l.length - 1) 0 = 0) ∧ cD l = false) ∨
    (3 ≤ l.length ∧ (l.map Ch.k).getD 0 [] = bQ ∧ (l.map (·.d.length)).getD 0 0 = 13 ∧ (l.map Ch.k).getD (l.length - 1) [] = aY ∧ (l.map (·.d.length)).getD (l.length - 1) 0 = 0 ∧ cD l = wid (walk (mid l) yF)) := by
  by_cases h1 : 3 ≤ l.length
  · by_cases h2 : (l.map Ch.k).getD 0 [] = bQ
    · by_cases h3 : (l.map (·.d.length)).getD 0 0 = 13
      · by_cases h4 : (l.map Ch.k).getD (l.length - 1) [] = aY
        · by_cases h5 : (l.map (·.d.length)).getD (l.length - 1) 0 = 0
          · refine .inr (.inr (.inr (.inr (.inr ⟨h1, h2, h3, h4, h5, ?_⟩))))
            unfold cD
            rw [h2, h3, h4, h5, decide_eq_true h1, show (bQ == bQ) = true by decide, show (aY == aY) = true by decide]
            rfl
          · refine .inr (.inr (.inr (.inr (.inl ⟨h1, h2, h3, h4, h5, ?_⟩))))
            unfold cD
            rw [beq_eq_false_iff_ne.2 h5]
            simp
        · refine .inr (.inr (.inr (.inl ⟨h1, h2, h3, h4, ?_⟩)))
          unfold cD
          rw [beq_eq_false_iff_ne.2 h4]
          simp
      · refine .inr (.inr (.inl ⟨h1, h2, h3, ?_⟩))
        unfold cD
        rw [beq_eq_false_iff_ne.2 h3]
        simp
    · refine .inr (.inl ⟨h1, h2, ?_⟩)
      unfold cD
      rw [beq_eq_false_iff_ne.2 h2]
      simp
  · refine .inl ⟨by omega, ?_⟩
    unfold cD
    rw [decide_eq_false h1]
    simp
theorem Na {l : List Ch} {i : Nat} {w : Wk} (c : Ch) (hc : l[i]? = some c) : walk (l.drop i) w = (if (bS w c).2 then walk (l.drop (i + 1)) (bS w c).1 else none) := by
  have hlt := (List.getElem?_eq_some_iff.1 hc).1
  rw [List.drop_eq_getElem_cons hlt, walk]
  have : l[i] = c := by rw [List.getElem?_eq_getElem hlt] at hc; exact Option.some.inj hc
  rw [this]
theorem D8 {l : List Ch} {i : Nat} {w : Wk} (h : l.length ≤ i) : walk (l.drop i) w = some w := by rw [List.drop_of_length_le h, walk]
end Go.aa
namespace Go.aa
open Go.af
def F6 (l : List Ch) : Int := if cD l then 0 else 4
theorem oX {l : List Ch} (h : cD l = true) : F6 l = 0 := if_pos h
theorem k8 {l : List Ch} (h : cD l = false) : F6 l = 4 := if_neg (by rw [h]; decide)
theorem RQ (b : Bool) : b = true ∨ b = false := by cases b <;> simp
theorem Ae {l : List Ch} (h : 3 ≤ l.length) : (mid l).length = l.length - 2 := by unfold mid; rw [List.length_take, List.length_drop]; omega
theorem Lj {l : List Ch} {i : Nat} (h : i < l.length - 2) : (mid l)[i]? = l[1 + i]? := by unfold mid; rw [List.getElem?_take_of_lt h, List.getElem?_drop]
theorem FJ {l : List Ch} (h : cD l = wid (walk (mid l) yF)) {w : Wk} (hw : walk (mid l) yF = some w) : cD l = w.bW := by rw [h, hw]; rfl
theorem Rt {l : List Ch} (h : cD l = wid (walk (mid l) yF)) (hw : walk (mid l) yF = none) : cD l = false := by rw [h, hw]; rfl
end Go.aa
namespace Go.aa
open Go.af
def mJ (c : Int) : Int := IntKind.u8.wrap ((BitVec.ofInt IntKind.u8.bits c ||| BitVec.ofInt IntKind.u8.bits 32).toNat : Int)
theorem Ky : ∀ k : Fin 256, (decide (97 ≤ mJ ((k.val : Nat) : Int) ∧ mJ ((k.val : Nat) : Int) ≤ 122) == decide (jL ((k.val : Nat) : Int))) = true := by decide +kernel
theorem K7 {c : Int} (h : 0 ≤ c ∧ c < 256) : (97 ≤ mJ c ∧ mJ c ≤ 122) ↔ jL c := by
  obtain ⟨k, rfl⟩ := aH.r3 h
  have := Ky k
  rw [beq_iff_eq] at this
  by_cases h1 : jL ((k.val : Nat) : Int)
  · rw [decide_eq_true h1] at this; exact ⟨fun _ => h1, fun _ => of_decide_eq_true this⟩
  · rw [decide_eq_false h1] at this; exact ⟨fun hh => absurd hh (of_decide_eq_false this), fun hh => absurd hh h1⟩
theorem o3 {c : Int} (h : 0 ≤ c ∧ c < 256) : (mJ c < 97 ∧ ¬ jL c) ∨ (¬ mJ c < 97 ∧ 122 < mJ c ∧ ¬ jL c) ∨ (¬ mJ c < 97 ∧ ¬ 122 < mJ c ∧ jL c) := by
  have := K7 h
  rcases Int.lt_or_le (mJ c) 97 with h1 | h1
  · exact .inl ⟨h1, fun hh => by have := this.2 hh; omega⟩
  · rcases Int.lt_or_le 122 (mJ c) with h2 | h2
    · exact .inr (.inl ⟨by omega, h2, fun hh => by have := this.2 hh; omega⟩)
    · exact .inr (.inr ⟨by omega, by omega, this.1 ⟨h1, h2⟩⟩)
theorem Tj {k : List Int} (h : ¬ k.length = 4) : ¬ cY k := fun hn => h hn.1
end Go.aa
namespace Go.aa
open Go.af
variable {n i : Nat} {prev : List Int} {c : Ch} {s : Od}
end Go.aa
namespace Go.aa
open Go.af Go.Sl
theorem PY {a b A B : Int} (ha : 0 ≤ a ∧ a ≤ A) (hb : 0 ≤ b ∧ b ≤ B) : 0 ≤ a * b ∧ a * b ≤ A * B := ⟨Int.mul_nonneg ha.1 hb.1, Int.mul_le_mul ha.2 hb.2 hb.1 (by omega)⟩
theorem BP (w h : Int) : (w < 1 ∧ aW w h = 1) ∨ (¬ w < 1 ∧ h < 1 ∧ aW w h = 1) ∨ (¬ w < 1 ∧ ¬ h < 1 ∧ 256 < w ∧ aW w h = 6) ∨ (¬ w < 1 ∧ ¬ h < 1 ∧ ¬ 256 < w ∧ 256 < h ∧ aW w h = 6) ∨ (¬ w < 1 ∧ ¬ h < 1 ∧ ¬ 256 < w ∧ ¬ 256 < h ∧ 16384 / h < w ∧ aW w h = 6) ∨ (¬ w < 1 ∧ ¬ h < 1 ∧ ¬ 256 < w ∧ ¬ 256 < h ∧ ¬ 16384 / h < w ∧ aW w h = 0) := by
  unfold aW
  by_cases h1 : w < 1
  · exact .inl ⟨h1, if_pos (.inl h1)⟩
  by_cases h2 : h < 1
  · exact .inr (.inl ⟨h1, h2, if_pos (.inr h2)⟩)
  rw [if_neg (by omega)]
  by_cases h3 : 256 < w
  · exact .inr (.inr (.inl ⟨h1, h2, h3, if_pos (.inl h3)⟩))
  by_cases h4 : 256 < h
  · exact .inr (.inr (.inr (.inl ⟨h1, h2, h3, h4, if_pos (.inr (.inl h4))⟩)))
  by_cases h5 : 16384 / h < w
  · exact .inr (.inr (.inr (.inr (.inl ⟨h1, h2, h3, h4, h5, if_pos (.inr (.inr h5))⟩))))
  · exact .inr (.inr (.inr (.inr (.inr ⟨h1, h2, h3, h4, h5, if_neg (by rintro (h | h | h); exact h3 h; exact h4 h; exact h5 h)⟩))))
theorem jj {w h : Int} (hs : aW w h = 0) : 1 ≤ w ∧ w ≤ 256 ∧ 1 ≤ h ∧ h ≤ 256 ∧ 1 ≤ w * h ∧ w * h ≤ 16384 := by
  rcases BP w h with h | h | h | h | h | ⟨h1, h2, h3, h4, h5, _⟩ <;> try omega
  have hm : w * h ≤ 16384 / h * h := Int.mul_le_mul_of_nonneg_right (by omega) (by omega)
  have hd : 16384 / h * h ≤ 16384 := Int.ediv_mul_le _ (by omega)
  have hp : 0 < w * h := Int.mul_pos (by omega) (by omega)
  omega
theorem pj {w h : Int} (hs : aW w h = 0) : 4 ≤ 4 * w * h ∧ 4 * w * h ≤ 65536 := by
  have := jj hs
  rw [Int.mul_assoc]; omega
theorem pQ {h : Int} (h1 : 1 ≤ h) : IntKind.i64.wrap ((16384 : Int).tdiv h) = 16384 / h := by
  rw [Int.tdiv_eq_ediv_of_nonneg (by decide)]
  have := Int.ediv_nonneg (a := 16384) (b := h) (by decide) (by omega)
  have h2 : 16384 / h ≤ 16384 := Int.ediv_le_self _ (by decide)
  exact eX (by omega) (by omega)
def iX (p : Ps) : Prop := 0 ≤ p.x ∧ p.x ≤ 8 ∧ 0 ≤ p.y ∧ p.y ≤ 8 ∧ (p.dx = 1 ∨ p.dx = 2 ∨ p.dx = 4 ∨ p.dx = 8) ∧ (p.dy = 1 ∨ p.dy = 2 ∨ p.dy = 4 ∨ p.dy = 8) ∧ 0 ≤ p.w ∧ p.w ≤ 256 ∧ 0 ≤ p.h ∧ p.h ≤ 256
theorem nw {w bits : Int} (hw : 0 ≤ w ∧ w ≤ 256) (hb : 0 ≤ bits ∧ bits ≤ 64) : 0 ≤ w * bits ∧ w * bits ≤ 16384 ∧ 0 ≤ dv w bits ∧ dv w bits ≤ 2048 := by
  have := PY hw hb
  unfold dv; omega
def sH (bits : Int) (p : Ps) : Int := if 0 < p.w then p.h * (1 + dv p.w bits) else 0
theorem De {p : Ps} {bits : Int} (hp : iX p) (hb : 0 ≤ bits ∧ bits ≤ 64) : 0 ≤ sH bits p ∧ sH bits p ≤ 524544 ∧ 0 ≤ p.h * (1 + dv p.w bits) ∧ p.h * (1 + dv p.w bits) ≤ 524544 := by
  obtain ⟨_, _, _, _, _, _, h1, h2, h3, h4⟩ := hp
  have hr := nw (w := p.w) ⟨h1, h2⟩ hb
  have := PY (a := p.h) (b := 1 + dv p.w bits) ⟨h3, h4⟩ (B := 2049) (by omega)
  unfold sH
  split <;> omega
theorem om (l : List Ps) (bits : Int) : eY l bits = (l.map (sH bits)).sum := rfl
theorem As : ∀ (a b : List Int), (a ++ b).sum = a.sum + b.sum
  | [], b => by simp
  | x :: a, b => by simp [As a b]; omega
theorem rH {l : List Ps} {bits : Int} {i : Nat} (h : i < l.length) : eY (l.take (i + 1)) bits = eY (l.take i) bits + sH bits (l.getD i ⟨0, 0, 0, 0, 0, 0⟩) := by
  rw [om, om, List.take_succ_eq_append_getElem h, List.map_append, As, List.getD_eq_getElem?_getD, List.getElem?_eq_getElem h]
  simp
theorem vU {l : List Ps} {bits : Int} (hb : 0 ≤ bits ∧ bits ≤ 64) (hl : ∀ p ∈ l, iX p) : 0 ≤ eY l bits ∧ eY l bits ≤ 524544 * l.length := by
  induction l with
  | nil => simp [eY]
  | cons p l ih =>
    have h1 := De (hl p (by simp)) hb
    have h2 := ih (fun q hq => hl q (by simp [hq]))
    rw [om] at h2 ⊢
    simp only [List.map_cons, List.sum_cons, List.length_cons]
    omega
theorem Ud {p : Ps} {bits : Int} (h : 0 < p.w) : sH bits p = p.h * (1 + dv p.w bits) := if_pos h
theorem TY {p : Ps} {bits : Int} (h : ¬ 0 < p.w) : sH bits p = 0 := if_neg h
theorem Dw {x y dx dy w h : Int} (hx : 0 ≤ x ∧ x ≤ 8) (hy : 0 ≤ y ∧ y ≤ 8) (hdx : dx = 1 ∨ dx = 2 ∨ dx = 4 ∨ dx = 8) (hdy : dy = 1 ∨ dy = 2 ∨ dy = 4 ∨ dy = 8) (hw : 0 ≤ w ∧ w ≤ 256) (hh : 0 ≤ h ∧ h ≤ 256) : iX (sW x y dx dy w h) := by
  have a := Bv (frm := x) (e := w) hdx
  have b := Bv (frm := y) (e := h) hdy
  have c := Bb (frm := x) (e := w) hx.1 hw.1 hdx
  have d := Bb (frm := y) (e := h) hy.1 hh.1 hdy
  exact ⟨hx.1, hx.2, hy.1, hy.2, hdx, hdy, a, Int.le_trans c hw.2, b, Int.le_trans d hh.2⟩
theorem K4 {w h : Int} (hw : 0 ≤ w ∧ w ≤ 256) (hh : 0 ≤ h ∧ h ≤ 256) : ∀ p ∈ hI w h, iX p := by
  intro p hp
  simp only [hI, List.mem_cons, List.not_mem_nil, or_false] at hp
  rcases hp with rfl | rfl | rfl | rfl | rfl | rfl | rfl <;> exact Dw (by decide) (by decide) (by decide) (by decide) hw hh
theorem Hu (w h : Int) : (hI w h).length = 7 := rfl
theorem Ex {w h : Int} (hw : 0 ≤ w ∧ w ≤ 256) (hh : 0 ≤ h ∧ h ≤ 256) : (∀ p ∈ eS w h, iX p) ∧ (eS w h).length ≤ 7 := ⟨fun p hp => K4 hw hh p (List.mem_filter.1 hp).1, List.length_filter_le _ _⟩
theorem yP {w h : Int} (hw : 0 ≤ w ∧ w ≤ 256) (hh : 0 ≤ h ∧ h ≤ 256) : (∀ p ∈ whole w h, iX p) ∧ (whole w h).length ≤ 7 := ⟨fun p hp => by
  simp only [whole, List.mem_cons, List.not_mem_nil, or_false] at hp
  subst hp
  exact ⟨Int.le_refl _, (by decide : (0:Int) ≤ 8), Int.le_refl _, (by decide : (0:Int) ≤ 8), .inl rfl, .inl rfl, hw.1, hw.2, hh.1, hh.2⟩, by simp [whole]⟩
def pJ (p : Ps) : Bool := decide (0 < p.w) && decide (0 < p.h)
def iw (w h : Int) (i : Nat) : List Ps := ((hI w h).take i).filter pJ
theorem Oo (w h : Int) : iw w h 7 = eS w h := rfl
theorem DO (w h : Int) : iw w h 0 = [] := rfl
theorem Gv (w h : Int) (i : Nat) : (iw w h i).length ≤ i := by
  have h1 := List.length_filter_le pJ ((hI w h).take i)
  have h2 : ((hI w h).take i).length ≤ i := by rw [List.length_take]; omega
  exact Nat.le_trans h1 h2
theorem C4 {w h : Int} {i : Nat} (hi : i < 7) : iw w h (i + 1) = iw w h i ++ (if pJ ((hI w h).getD i ⟨0, 0, 0, 0, 0, 0⟩) then [(hI w h).getD i ⟨0, 0, 0, 0, 0, 0⟩] else []) := by
  unfold iw
  rw [List.take_succ_eq_append_getElem (show i < (hI w h).length from hi), List.filter_append, List.getD_eq_getElem?_getD, List.getElem?_eq_getElem (show i < (hI w h).length from hi), Option.getD_some]
  congr 1
  simp only [List.filter]
  split <;> simp_all
theorem Ov (p : Ps) : (¬ 0 < p.w ∧ pJ p = false) ∨ (0 < p.w ∧ ¬ 0 < p.h ∧ pJ p = false) ∨ (0 < p.w ∧ 0 < p.h ∧ pJ p = true) := by
  unfold pJ
  by_cases h1 : 0 < p.w
  · by_cases h2 : 0 < p.h
    · exact .inr (.inr ⟨h1, h2, by simp [h1, h2]⟩)
    · exact .inr (.inl ⟨h1, h2, by simp [h2]⟩)
  · exact .inl ⟨h1, by simp [h1]⟩
theorem Dy {w h : Int} {i : Nat} (hi : i < 7) {p : Ps} (hp : (hI w h).getD i ⟨0, 0, 0, 0, 0, 0⟩ = p) (ht : pJ p = true) : iw w h i ++ [p] = iw w h (i + 1) := by rw [C4 hi, hp, if_pos ht]
theorem DC {w h : Int} {i : Nat} (hi : i < 7) {p : Ps} (hp : (hI w h).getD i ⟨0, 0, 0, 0, 0, 0⟩ = p) (ht : pJ p = false) : iw w h i = iw w h (i + 1) := by rw [C4 hi, hp, if_neg (by rw [ht]; decide), List.append_nil]
theorem Lo {l : List Ps} (h : ∀ p ∈ l, iX p) {i : Nat} (hi : i < l.length) : iX (l.getD i ⟨0, 0, 0, 0, 0, 0⟩) := by
  rw [List.getD_eq_getElem?_getD, List.getElem?_eq_getElem hi]; exact h _ (List.getElem_mem hi)
theorem Uj {step e : Int} (hs : step = 1 ∨ step = 2 ∨ step = 4 ∨ step = 8) (frm : Int) (h : e ≤ frm) : many frm step e = 0 := if_pos h
theorem Iy {frm step e : Int} (h : ¬ e ≤ frm) : many frm step e = (e - frm + step - 1) / step := if_neg h
theorem many1 {e : Int} (h : 1 ≤ e) : many 0 1 e = e := by rw [Iy (by omega)]; omega
end Go.aa
namespace Go.aa
open Go.af
def YV : List Ps := [⟨0, 0, 8, 8, 0, 0⟩, ⟨4, 0, 8, 8, 0, 0⟩, ⟨0, 4, 4, 8, 0, 0⟩, ⟨2, 0, 4, 4, 0, 0⟩, ⟨0, 2, 2, 4, 0, 0⟩, ⟨1, 0, 2, 2, 0, 0⟩, ⟨0, 1, 1, 2, 0, 0⟩]
theorem tZ (c : Int) : (c = 0 ∧ parts c = 1) ∨ (c ≠ 0 ∧ c = 3 ∧ parts c = 1) ∨ (c ≠ 0 ∧ c ≠ 3 ∧ c = 2 ∧ parts c = 3) ∨ (c ≠ 0 ∧ c ≠ 3 ∧ c ≠ 2 ∧ c = 4 ∧ parts c = 2) ∨ (c ≠ 0 ∧ c ≠ 3 ∧ c ≠ 2 ∧ c ≠ 4 ∧ c = 6 ∧ parts c = 4) ∨ (c ≠ 0 ∧ c ≠ 3 ∧ c ≠ 2 ∧ c ≠ 4 ∧ c ≠ 6 ∧ parts c = 0) := by
  unfold parts
  by_cases h0 : c = 0
  · exact .inl ⟨h0, by simp [h0]⟩
  by_cases h3 : c = 3
  · exact .inr (.inl ⟨h0, h3, by simp [h3]⟩)
  by_cases h2 : c = 2
  · exact .inr (.inr (.inl ⟨h0, h3, h2, by simp [h2]⟩))
  by_cases h4 : c = 4
  · exact .inr (.inr (.inr (.inl ⟨h0, h3, h2, h4, by simp [h4]⟩)))
  by_cases h6 : c = 6
  · exact .inr (.inr (.inr (.inr (.inl ⟨h0, h3, h2, h4, h6, by simp [h6]⟩))))
  · exact .inr (.inr (.inr (.inr (.inr ⟨h0, h3, h2, h4, h6, by simp [h0, h3, h2, h4, h6]⟩))))
theorem TQ (c d : Int) : (c = 0 ∧ decide (deep c d) = decide (d ∈ ([1, 2, 4, 8, 16] : List Int))) ∨ (c ≠ 0 ∧ c = 3 ∧ decide (deep c d) = decide (d ∈ ([1, 2, 4, 8] : List Int))) ∨ (c ≠ 0 ∧ c ≠ 3 ∧ ¬ 0 < parts c ∧ decide (deep c d) = false) ∨ (c ≠ 0 ∧ c ≠ 3 ∧ 0 < parts c ∧ d = 8 ∧ decide (deep c d) = true) ∨ (c ≠ 0 ∧ c ≠ 3 ∧ 0 < parts c ∧ ¬ d = 8 ∧ decide (deep c d) = decide (d = 16)) := by
  by_cases h0 : c = 0
  · refine .inl ⟨h0, decide_eq_decide.2 ?_⟩
    unfold deep; simp [h0]
  by_cases h3 : c = 3
  · refine .inr (.inl ⟨h0, h3, decide_eq_decide.2 ?_⟩)
    unfold deep; simp [h3]
  by_cases hp : 0 < parts c
  · have hc : c = 2 ∨ c = 4 ∨ c = 6 := by rcases tZ c with h | h | h | h | h | h <;> omega
    by_cases h8 : d = 8
    · exact .inr (.inr (.inr (.inl ⟨h0, h3, hp, h8, decide_eq_true (.inr (.inr ⟨hc, .inl h8⟩))⟩)))
    · refine .inr (.inr (.inr (.inr ⟨h0, h3, hp, h8, decide_eq_decide.2 ?_⟩)))
      unfold deep
      exact ⟨fun h => by rcases h with h | h | h <;> omega, fun h => .inr (.inr ⟨hc, .inr h⟩)⟩
  · refine .inr (.inr (.inl ⟨h0, h3, hp, decide_eq_false ?_⟩))
    unfold deep
    rintro (h | h | h)
    · exact h0 h.1
    · exact h3 h.1
    · have : 0 < parts c := by rcases tZ c with g | g | g | g | g | g <;> omega
      exact hp this
theorem MA {l : List Int} {x : Int} {i : Nat} (h : i < l.length) (e : x = l.getD i 0) : x ∈ l := by
  rw [e, List.getD_eq_getElem?_getD, List.getElem?_eq_getElem h]; exact List.getElem_mem h
theorem Mg {l : List Int} {x : Int} (h : ∀ j, j < l.length → x ≠ l.getD j 0) : x ∉ l := fun hx => by
  obtain ⟨j, hj, e⟩ := List.getElem_of_mem hx
  refine h j hj ?_
  rw [List.getD_eq_getElem?_getD, List.getElem?_eq_getElem hj]; exact e.symm
theorem KN {l : List Int} {x r : Int} {t : Bool} (ht : t = decide (x ∈ l)) (h : 0 ≤ r ↔ x ∈ l) : decide (0 ≤ r) = t := by rw [ht]; exact decide_eq_decide.2 h
end Go.aa
namespace Go.aa
open Go.af Go.Sl
theorem MN (a b : Int) : (if a - b < b - a then b - a else a - b) = off a b := by unfold off; split <;> omega
theorem Ya (a b c : Int) : (off (a + b - c) a ≤ off (a + b - c) b ∧ off (a + b - c) a ≤ off (a + b - c) c ∧ rm a b c = a) ∨ (off (a + b - c) a ≤ off (a + b - c) b ∧ ¬ off (a + b - c) a ≤ off (a + b - c) c ∧ off (a + b - c) b ≤ off (a + b - c) c ∧ rm a b c = b) ∨ (off (a + b - c) a ≤ off (a + b - c) b ∧ ¬ off (a + b - c) a ≤ off (a + b - c) c ∧ ¬ off (a + b - c) b ≤ off (a + b - c) c ∧ rm a b c = c) ∨
    (¬ off (a + b - c) a ≤ off (a + b - c) b ∧ off (a + b - c) b ≤ off (a + b - c) c ∧ rm a b c = b) ∨ (¬ off (a + b - c) a ≤ off (a + b - c) b ∧ ¬ off (a + b - c) b ≤ off (a + b - c) c ∧ rm a b c = c) := by
  unfold rm
  by_cases h1 : off (a + b - c) a ≤ off (a + b - c) b
  · by_cases h2 : off (a + b - c) a ≤ off (a + b - c) c
    · exact .inl ⟨h1, h2, if_pos ⟨h1, h2⟩⟩
    · rw [if_neg (fun h => h2 h.2)]
      by_cases h3 : off (a + b - c) b ≤ off (a + b - c) c
      · exact .inr (.inl ⟨h1, h2, h3, if_pos h3⟩)
      · exact .inr (.inr (.inl ⟨h1, h2, h3, if_neg h3⟩))
  · rw [if_neg (fun h => h1 h.1)]
    by_cases h3 : off (a + b - c) b ≤ off (a + b - c) c
    · exact .inr (.inr (.inr (.inl ⟨h1, h3, if_pos h3⟩)))
    · exact .inr (.inr (.inr (.inr ⟨h1, h3, if_neg h3⟩)))
def rv (l : List Int) (j : Int) : Int := if j < 0 then 0 else l.getD j.toNat 0
theorem XZ (l : List Int) (j : Int) : (j < 0 ∧ rv l j = 0) ∨ (¬ j < 0 ∧ (l.length : Int) ≤ j ∧ rv l j = 0) ∨ (¬ j < 0 ∧ ¬ (l.length : Int) ≤ j ∧ rv l j = l.getD j.toNat 0) := by
  unfold rv
  by_cases h1 : j < 0
  · exact .inl ⟨h1, if_pos h1⟩
  rw [if_neg h1]
  by_cases h2 : (l.length : Int) ≤ j
  · refine .inr (.inl ⟨h1, h2, ?_⟩)
    rw [List.getD_eq_getElem?_getD, List.getElem?_eq_none (by omega)]; rfl
  · exact .inr (.inr ⟨h1, h2, rfl⟩)
theorem Ff (l : List Int) (i back : Nat) : rv l ((i : Int) - (back : Int)) = gz l i back := by
  unfold rv gz
  by_cases h : i < back
  · rw [if_pos (by omega), if_pos h]
  · rw [if_neg (by omega), if_neg h, show ((i : Int) - (back : Int)).toNat = i - back by omega]
theorem LA (l : List Int) (i : Nat) : rv l (i : Int) = l.getD i 0 := by
  unfold rv; rw [if_neg (by omega), Int.toNat_natCast]
theorem Xv (kind a b c : Int) : (kind = 1 ∧ mO kind a b c = a) ∨ (kind ≠ 1 ∧ kind = 2 ∧ mO kind a b c = b) ∨ (kind ≠ 1 ∧ kind ≠ 2 ∧ kind = 3 ∧ mO kind a b c = (a + b) / 2) ∨ (kind ≠ 1 ∧ kind ≠ 2 ∧ kind ≠ 3 ∧ kind = 4 ∧ mO kind a b c = rm a b c) ∨ (kind ≠ 1 ∧ kind ≠ 2 ∧ kind ≠ 3 ∧ kind ≠ 4 ∧ mO kind a b c = 0) := by
  unfold mO
  by_cases h1 : kind = 1
  · exact .inl ⟨h1, if_pos h1⟩
  rw [if_neg h1]
  by_cases h2 : kind = 2
  · exact .inr (.inl ⟨h1, h2, if_pos h2⟩)
  rw [if_neg h2]
  by_cases h3 : kind = 3
  · exact .inr (.inr (.inl ⟨h1, h2, h3, if_pos h3⟩))
  rw [if_neg h3]
  by_cases h4 : kind = 4
  · exact .inr (.inr (.inr (.inl ⟨h1, h2, h3, h4, if_pos h4⟩)))
  · exact .inr (.inr (.inr (.inr ⟨h1, h2, h3, h4, if_neg h4⟩)))
def iJ (kind : Int) (row above : List Int) (back i : Nat) : List Int := iD kind row above back i ++ List.replicate (row.length - i) 0
theorem GG {kind : Int} {row above : List Int} {back i : Nat} (h : i ≤ row.length) : (iJ kind row above back i).length = row.length := by
  unfold iJ; rw [List.length_append, mc, List.length_replicate]; omega
theorem NM (kind : Int) (row above : List Int) (back : Nat) : iJ kind row above back 0 = List.replicate row.length 0 := by simp [iJ, iD]
theorem GC (kind : Int) (row above : List Int) (back : Nat) : iJ kind row above back row.length = eJ kind row above back := by simp [iJ, eJ]
theorem Hw {kind : Int} {row above : List Int} {back i : Nat} : ak (iJ kind row above back i) := fun x hx => by
  rcases List.mem_append.1 hx with h | h
  · exact sa kind row above back i x h
  · rw [List.eq_of_mem_replicate h]; decide
theorem Ap {a : List Int} {x v : Int} {b : List Int} {i : Nat} (ha : a.length = i) : (a ++ x :: b).set i v = a ++ v :: b := by
  subst ha; rw [List.set_append_right _ _ (Nat.le_refl _), Nat.sub_self]; rfl
theorem G9 {kind : Int} {row above : List Int} {back i : Nat} (h : i < row.length) : (iJ kind row above back i).set i (jt kind row above back (iD kind row above back i) i) = iJ kind row above back (i + 1) := by
  unfold iJ
  rw [show row.length - i = (row.length - (i + 1)) + 1 by omega, List.replicate_succ, Ap (mc ..), iD, List.append_assoc]
  rfl
theorem KK {kind : Int} {row above : List Int} {back i : Nat} (hb : 0 < back) : gz (iJ kind row above back i) i back = gz (iD kind row above back i) i back := Pl (mc ..) hb
def W6 (kind : Int) (row above : List Int) (back i : Nat) : List Int := iD kind row above back i ++ row.drop i
theorem Ka {kind : Int} {row above : List Int} {back i : Nat} {x y : Int} (hx : x = row.getD i 0) (hy : y = mO kind (gz (iD kind row above back i) i back) (above.getD i 0) (gz above i back)) : (x + y) % 256 = jt kind row above back (iD kind row above back i) i := by rw [hx, hy]; rfl
end Go.aa
namespace Go.aa
open Go.af Go.Sl
theorem uF (B : List Int) (a : Nat) {n : Nat} (hn : n ≤ 24) : 0 ≤ bM B a n ∧ bM B a n < 16777216 := by
  have h := lI B a n
  have h2 : (2 : Nat) ^ n ≤ 2 ^ 24 := Nat.pow_le_pow_right (by decide) hn
  have h3 : (2 : Int) ^ n = ((2 ^ n : Nat) : Int) := by simp
  rw [h3] at h
  omega
theorem UH {B : List Int} {a k : Nat} (hk : k ≤ 24) : IntKind.i64.wrap (bM B a k * 2 ^ (min (1 : Int).toNat IntKind.i64.bits)) = 2 * bM B a k := by
  have h := uF B a hk
  exact PI h.1 (by omega)
theorem YI {B : List Int} {a k : Nat} (hk : k ≤ 24) : IntKind.i64.wrap ((BitVec.ofInt IntKind.i64.bits (2 * bM B a k) ||| BitVec.ofInt IntKind.i64.bits (fJ B (a + k))).toNat : Int) = bM B a (k + 1) := by
  have h := uF B a hk
  rw [EA h.1 (by omega) (ri _ _)]
  rfl
def iy (d : Int) : Prop := d = 1 ∨ d = 2 ∨ d = 4 ∨ d = 8 ∨ d = 16
def up (d v : Int) : Int := v * (65535 / (2 ^ d.toNat - 1))
theorem lO {d : Int} (h : iy d) : (2 : Int) ≤ 2 ^ d.toNat ∧ (2 : Int) ^ d.toNat ≤ 65536 := by rcases h with rfl | rfl | rfl | rfl | rfl <;> decide
theorem iU {d : Int} (h : iy d) : 1 ≤ d ∧ d ≤ 16 := by rcases h with rfl | rfl | rfl | rfl | rfl <;> decide
theorem AI {d : Int} (h : iy d) : IntKind.i64.wrap (1 * 2 ^ (min d.toNat IntKind.i64.bits)) = 2 ^ d.toNat := by rcases h with rfl | rfl | rfl | rfl | rfl <;> decide
theorem gp {c d : Int} (h : deep c d) : iy d := by
  unfold deep at h
  unfold iy
  omega
theorem lh {c d : Int} (h : deep c d) : 1 ≤ parts c ∧ parts c ≤ 4 ∧ 1 ≤ parts c * d ∧ parts c * d ≤ 64 := by
  unfold deep at h
  rcases h with ⟨rfl, h⟩ | ⟨rfl, h⟩ | ⟨rfl | rfl | rfl, h⟩
  · rw [show parts 0 = 1 from rfl]; omega
  · rw [show parts 3 = 1 from rfl]; omega
  · rw [show parts 2 = 3 from rfl]; omega
  · rw [show parts 4 = 2 from rfl]; omega
  · rw [show parts 6 = 4 from rfl]; omega
theorem CL {d v : Int} (h : iy d) (h0 : 0 ≤ v) (h1 : v < 2 ^ d.toNat) : 0 ≤ up d v ∧ up d v ≤ 65535 := by
  unfold up
  rcases h with rfl | rfl | rfl | rfl | rfl
  · have : v < 2 := h1; simp; omega
  · have : v < 4 := h1; simp; omega
  · have : v < 16 := h1; simp; omega
  · have : v < 256 := h1; simp; omega
  · have : v < 65536 := h1; simp; omega
theorem up_mul {d v P : Int} (hP : P = 2 ^ d.toNat) (h : iy d) (h0 : 0 ≤ v) (h1 : v < P) : IntKind.i64.wrap (v * (65535 / (P - 1))) = up d v := by
  subst hP
  have := CL h h0 h1
  unfold up at this ⊢
  exact eX (by omega) (by omega)
theorem np {n : Int} (h : 0 ≤ n ∧ n ≤ 65535) : IntKind.u16.wrap n = n := by
  have : IntKind.u16.wrap n = n % 65536 := rfl
  omega
theorem YY (x : Int) : up 8 x = x * 257 := by unfold up; rfl
theorem Lx {d : Int} (h : iy d) : d = 1 ∨ (d ≠ 1 ∧ d = 2) ∨ (d ≠ 1 ∧ d ≠ 2 ∧ d = 4) ∨ (d ≠ 1 ∧ d ≠ 2 ∧ d ≠ 4 ∧ d = 8) ∨ (d ≠ 1 ∧ d ≠ 2 ∧ d ≠ 4 ∧ d ≠ 8 ∧ d = 16) := by
  unfold iy at h
  omega
theorem tH {w h x y : Int} (hx : 0 ≤ x ∧ x < w) (hy : 0 ≤ y ∧ y < h) : 0 ≤ y * w ∧ 0 ≤ y * w + x ∧ y * w + x + 1 ≤ w * h := by
  have h1 : 0 ≤ y * w := Int.mul_nonneg hy.1 (by omega)
  have h2 : (y + 1) * w ≤ h * w := Int.mul_le_mul_of_nonneg_right (by omega) (by omega)
  rw [Int.add_mul, Int.one_mul, Int.mul_comm h w] at h2
  omega
def FL (w : Int) (pix : List Int) (x y : Int) : List Int := (pix.drop (4 * (y * w + x)).toNat).take 4
theorem GV {w : Int} {pix : List Int} {x y : Int} {c : List Int} (hc : c.length = 4) (h : (4 * (y * w + x)).toNat + 4 ≤ pix.length) : (kW w pix x y c).length = pix.length := by
  simp [kW, hc]
  omega
theorem LQ {w : Int} {pix : List Int} {x y : Int} (h : (4 * (y * w + x)).toNat + 4 ≤ pix.length) : (FL w pix x y).length = 4 := by
  simp [FL]
  omega
def jh (w1 h1 : Int) (n1 : Nat) (w2 h2 : Int) (n2 : Nat) (L1 L2 : List Int) : Prop := (aW w1 h1 = 0 ∧ (n1 : Int) = 4 * w1 * h1) ∧ (aW w2 h2 = 0 ∧ (n2 : Int) = 4 * w2 * h2) ∧ w1 = w2 ∧ h1 = h2 ∧ L1 = L2
theorem Tu (w1 h1 : Int) (n1 : Nat) (w2 h2 : Int) (n2 : Nat) (L1 L2 : List Int) :
    (¬ (aW w1 h1 = 0 ∧ (n1 : Int) = 4 * w1 * h1) ∧ ¬ jh w1 h1 n1 w2 h2 n2 L1 L2) ∨
    ((aW w1 h1 = 0 ∧ (n1 : Int) = 4 * w1 * h1) ∧ ¬ (aW w2 h2 = 0 ∧ (n2 : Int) = 4 * w2 * h2) ∧ ¬ jh w1 h1 n1 w2 h2 n2 L1 L2) ∨
    ((aW w1 h1 = 0 ∧ (n1 : Int) = 4 * w1 * h1) ∧ (aW w2 h2 = 0 ∧ (n2 : Int) = 4 * w2 * h2) ∧ w1 ≠ w2 ∧ ¬ jh w1 h1 n1 w2 h2 n2 L1 L2) ∨
    ((aW w1 h1 = 0 ∧ (n1 : Int) = 4 * w1 * h1) ∧ (aW w2 h2 = 0 ∧ (n2 : Int) = 4 * w2 * h2) ∧ w1 = w2 ∧ h1 ≠ h2 ∧ ¬ jh w1 h1 n1 w2 h2 n2 L1 L2) ∨
    ((aW w1 h1 = 0 ∧ (n1 : Int) = 4 * w1 * h1) ∧ (aW w2 h2 = 0 ∧ (n2 : Int) = 4 * w2 * h2) ∧ w1 = w2 ∧ h1 = h2 ∧ n1 = n2) := by
  by_cases a : (aW w1 h1 = 0 ∧ (n1 : Int) = 4 * w1 * h1)
  · by_cases b : (aW w2 h2 = 0 ∧ (n2 : Int) = 4 * w2 * h2)
    · by_cases c : w1 = w2
      · by_cases d : h1 = h2
        · exact .inr (.inr (.inr (.inr ⟨a, b, c, d, by subst c; subst d; omega⟩)))
        · exact .inr (.inr (.inr (.inl ⟨a, b, c, d, fun h => d h.2.2.2.1⟩)))
      · exact .inr (.inr (.inl ⟨a, b, c, fun h => c h.2.2.1⟩))
    · exact .inr (.inl ⟨a, b, fun h => b h.2.1⟩)
  · exact .inl ⟨a, fun h => a h.1⟩
theorem Jv {L1 L2 : List Int} {i : Nat} (h : L1.getD i 0 ≠ L2.getD i 0) : L1 ≠ L2 := fun e => h (by rw [e])
theorem C1 {L1 L2 : List Int} (hl : L1.length = L2.length) (h : ∀ j, j < L1.length → L1.getD j 0 = L2.getD j 0) : L1 = L2 := by
  refine List.ext_getElem hl fun j h1 h2 => ?_
  have := h j h1
  rwa [List.getD_eq_getElem?_getD, List.getD_eq_getElem?_getD, List.getElem?_eq_getElem h1, List.getElem?_eq_getElem h2] at this
end Go.aa
namespace Go.aa
open Go.af Go.Sl
theorem fF (l : List Int) (n i : Nat) : (l.drop n).getD i 0 = l.getD (n + i) 0 := by simp [List.getD_eq_getElem?_getD, List.getElem?_drop]
theorem Rj {B : List Int} (hB : ak B) (j : Nat) : bM B (8 * j) 16 * 65536 + bM B (8 * j + 16) 16 = aH.cV (B.drop j) := by
 rw [qy (hB.get _) (hB.get _), show 8 * j + 16 = 8 * (j + 2) by omega, qy (hB.get _) (hB.get _)]
 unfold aH.cV
 rw [fF, fF, fF, fF]
 simp only [Nat.add_zero]
 rw [show j + 2 + 1 = j + 3 from rfl]
 omega
theorem BI (B : List Int) (a : Nat) : 0 ≤ bM B a 16 ∧ bM B a 16 < 65536 := by have := lI B a 16; omega
def D2 (B : List Int) (a : Nat) : Nat → Int
 | 0 => 0
 | n + 1 => D2 B a n * 256 + B.getD (a + n) 0
def Pb (B : List Int) : Hd := if eF B = 0 then aL B else ⟨0, 0, 0, 0, false⟩
theorem wC {B : List Int} (h : eF B = 0) : Pb B = aL B := if_pos h
theorem oB {B : List Int} {e : Int} (h : eF B = e) (he : e ≠ 0) : Pb B = ⟨0, 0, 0, 0, false⟩ := if_neg (by rw [h]; exact he)
theorem AL (B : List Int) : (B.length ≠ 13 ∧ eF B = 4) ∨
  (¬ B.length ≠ 13 ∧ ¬ deep (aL B).ar (aL B).dep ∧ eF B = 4) ∨
  (¬ B.length ≠ 13 ∧ deep (aL B).ar (aL B).dep ∧ 0 < B.getD 10 0 + B.getD 11 0 ∧ eF B = 4) ∨
  (¬ B.length ≠ 13 ∧ deep (aL B).ar (aL B).dep ∧ ¬ 0 < B.getD 10 0 + B.getD 11 0 ∧ 1 < B.getD 12 0 ∧ eF B = 4) ∨
  (¬ B.length ≠ 13 ∧ deep (aL B).ar (aL B).dep ∧ ¬ 0 < B.getD 10 0 + B.getD 11 0 ∧ ¬ 1 < B.getD 12 0 ∧ (aL B).w = 0 ∧ eF B = 4) ∨
  (¬ B.length ≠ 13 ∧ deep (aL B).ar (aL B).dep ∧ ¬ 0 < B.getD 10 0 + B.getD 11 0 ∧ ¬ 1 < B.getD 12 0 ∧ ¬ (aL B).w = 0 ∧ (aL B).h = 0 ∧ eF B = 4) ∨
  (¬ B.length ≠ 13 ∧ deep (aL B).ar (aL B).dep ∧ ¬ 0 < B.getD 10 0 + B.getD 11 0 ∧ ¬ 1 < B.getD 12 0 ∧ ¬ (aL B).w = 0 ∧ ¬ (aL B).h = 0 ∧ aW (aL B).w (aL B).h ≠ 0 ∧ eF B = 6) ∨
  (¬ B.length ≠ 13 ∧ deep (aL B).ar (aL B).dep ∧ ¬ 0 < B.getD 10 0 + B.getD 11 0 ∧ ¬ 1 < B.getD 12 0 ∧ ¬ (aL B).w = 0 ∧ ¬ (aL B).h = 0 ∧ ¬ aW (aL B).w (aL B).h ≠ 0 ∧ eF B = 0) := by
 unfold eF
 by_cases h0 : B.length ≠ 13
 ·exact .inl ⟨h0, if_pos h0⟩
 refine .inr ?_
 rw [if_neg h0]
 by_cases h1 : deep (aL B).ar (aL B).dep
 case neg => exact .inl ⟨h0, h1, if_pos (.inl h1)⟩
 refine .inr ?_
 by_cases h2 : 0 < B.getD 10 0 + B.getD 11 0
 ·exact .inl ⟨h0, h1, h2, if_pos (.inr (.inl h2))⟩
 refine .inr ?_
 by_cases h3 : 1 < B.getD 12 0
 ·exact .inl ⟨h0, h1, h2, h3, if_pos (.inr (.inr (.inl h3)))⟩
 refine .inr ?_
 by_cases h4 : (aL B).w = 0
 ·exact .inl ⟨h0, h1, h2, h3, h4, if_pos (.inr (.inr (.inr (.inl h4))))⟩
 refine .inr ?_
 by_cases h5 : (aL B).h = 0
 ·exact .inl ⟨h0, h1, h2, h3, h4, h5, if_pos (.inr (.inr (.inr (.inr h5))))⟩
 refine .inr ?_
 rw [if_neg (fun h => by
  rcases h with h | h | h | h | h
  ·exact h h1
  ·exact h2 h
  ·exact h3 h
  ·exact h4 h
  ·exact h5 h)]
 by_cases h6 : aW (aL B).w (aL B).h = 0
 ·exact .inr ⟨h0, h1, h2, h3, h4, h5, fun h => h h6, if_pos h6⟩
 ·exact .inl ⟨h0, h1, h2, h3, h4, h5, h6, if_neg h6⟩
def WG (c d : Int) : Prop := if c = 0 then d = 1 ∨ d = 2 ∨ d = 4 ∨ d = 8 ∨ d = 16 else if c = 2 ∨ c = 4 ∨ c = 6 then d = 8 ∨ d = 16 else if c = 3 then d = 1 ∨ d = 2 ∨ d = 4 ∨ d = 8 else d = 8
instance (c d : Int) : Decidable (WG c d) := by unfold WG; infer_instance
theorem KP {L : List Int} {c : Ch} (hL : ak L) (h : first L = .ok c) : ak c.k ∧ c.k.length < 500000000 := by
 unfold first at h
 split at h
 ·cases h
 ·split at h
  ·cases h
  ·split at h
   ·cases h
   ·split at h
    ·cases h
     exact ⟨fun x hx => hL x (List.mem_of_mem_drop (List.mem_of_mem_take hx)), by simp only [List.length_take]; omega⟩
    ·cases h
theorem ET : ∀ {f : Nat} {L : List Int} {a l : List Ch}, ak L → (∀ c ∈ a, ak c.k ∧ c.k.length < 500000000) → fx f L a = .ok l → ∀ c ∈ l, ak c.k ∧ c.k.length < 500000000
 | 0, L, a, l, _, _, h => by cases h
 | f + 1, L, a, l, hL, ha, h => by
  rw [fx] at h
  split at h
  ·cases h
  ·rename_i c hc
   have hd := KP hL hc
   have ha2 : ∀ y ∈ a ++ [c], ak y.k ∧ y.k.length < 500000000 := fun y hy => by
    rcases List.mem_append.1 hy with hy | hy
    ·exact ha y hy
    ·rw [List.mem_singleton.1 hy]; exact hd
   split at h
   ·split at h
    ·cases h; exact ha2
    ·cases h
   ·exact ET (fun x hx => hL x (List.mem_of_mem_drop hx)) ha2 h
theorem SY {B : List Int} {l : List Ch} (hB : ak B) (h : cut B = .ok l) : ∀ c ∈ l, ak c.k ∧ c.k.length < 500000000 := by
 unfold cut at h
 split at h
 ·cases h
 ·split at h
  ·cases h
  ·split at h
   ·exact ET (fun x hx => hB x (List.mem_of_mem_drop hx)) (fun c hc => by cases hc) h
   ·cases h
def iY (l : List Ch) : Nat := (l.map (·.d.length)).sum
theorem Hj (a : List Ch) (c : Ch) : iY (a ++ [c]) = iY a + c.d.length := by simp [iY]
theorem Hn {L : List Int} {c : Ch} (h : first L = .ok c) : 12 + c.d.length ≤ L.length := by
 unfold first at h
 split at h
 ·cases h
 ·rename_i h12
  split at h
  ·cases h
  ·split at h
   ·cases h
   ·rename_i h3
    split at h
    ·cases h
     simp only [List.length_take, List.length_drop]
     omega
    ·cases h
theorem xZ : ∀ {f : Nat} {L : List Int} {a l : List Ch}, fx f L a = .ok l → iY l ≤ iY a + L.length
 | 0, L, a, l, h => by cases h
 | f + 1, L, a, l, h => by
  rw [fx] at h
  split at h
  ·cases h
  ·rename_i c hc
   have hd := Hn hc
   have hs := Hj a c
   split at h
   ·split at h
    ·cases h; omega
    ·cases h
   ·have := xZ h
    rw [List.length_drop] at this
    omega
theorem u9 {B : List Int} {l : List Ch} (h : cut B = .ok l) : iY l ≤ B.length := by
 unfold cut at h
 split at h
 ·cases h
 ·split at h
  ·cases h
  ·split at h
   ·have := xZ h
    rw [List.length_drop] at this
    have e0 : iY [] = 0 := rfl
    omega
   ·cases h
theorem nH : ∀ l : List Ch, (bW l).length ≤ iY l
 | [] => by simp [bW, iY]
 | c :: l => by
  have ih := nH l
  unfold bW at ih ⊢
  rw [List.filter_cons]
  have e : iY (c :: l) = c.d.length + iY l := by simp [iY]
  split
  ·simp only [List.flatMap_cons, List.length_append]; omega
  ·omega
theorem lN {l : List Ch} {k : List Int} : (bu l k).length ≤ iY l := by
 unfold bu
 split
 ·rename_i c hc
  have hm := List.mem_of_find?_eq_some hc
  unfold iY
  clear hc
  induction l with
  | nil => cases hm
  | cons a l ih =>
   rw [List.map_cons, List.sum_cons]
   rcases List.mem_cons.1 hm with rfl | hm
   ·omega
   ·have := ih hm; omega
 ·simp
end Go.aa
namespace Go.aa
open Go.af Go.Sl
theorem YM {B : List Int} (h0 : ¬ B.length ≠ 13) :
  (¬ B.length ≠ 13 ∧ ¬ deep (aL B).ar (aL B).dep ∧ eF B = 4) ∨
  (¬ B.length ≠ 13 ∧ deep (aL B).ar (aL B).dep ∧ 0 < B.getD 10 0 + B.getD 11 0 ∧ eF B = 4) ∨
  (¬ B.length ≠ 13 ∧ deep (aL B).ar (aL B).dep ∧ ¬ 0 < B.getD 10 0 + B.getD 11 0 ∧ 1 < B.getD 12 0 ∧ eF B = 4) ∨
  (¬ B.length ≠ 13 ∧ deep (aL B).ar (aL B).dep ∧ ¬ 0 < B.getD 10 0 + B.getD 11 0 ∧ ¬ 1 < B.getD 12 0 ∧ (aL B).w = 0 ∧ eF B = 4) ∨
  (¬ B.length ≠ 13 ∧ deep (aL B).ar (aL B).dep ∧ ¬ 0 < B.getD 10 0 + B.getD 11 0 ∧ ¬ 1 < B.getD 12 0 ∧ ¬ (aL B).w = 0 ∧ (aL B).h = 0 ∧ eF B = 4) ∨
  (¬ B.length ≠ 13 ∧ deep (aL B).ar (aL B).dep ∧ ¬ 0 < B.getD 10 0 + B.getD 11 0 ∧ ¬ 1 < B.getD 12 0 ∧ ¬ (aL B).w = 0 ∧ ¬ (aL B).h = 0 ∧ aW (aL B).w (aL B).h ≠ 0 ∧ eF B = 6) ∨
  (¬ B.length ≠ 13 ∧ deep (aL B).ar (aL B).dep ∧ ¬ 0 < B.getD 10 0 + B.getD 11 0 ∧ ¬ 1 < B.getD 12 0 ∧ ¬ (aL B).w = 0 ∧ ¬ (aL B).h = 0 ∧ ¬ aW (aL B).w (aL B).h ≠ 0 ∧ eF B = 0) := (AL B).resolve_left (fun h => h0 h.1)
theorem BU {x : Int} (h : 0 ≤ x ∧ x < 256) : IntKind.i64.wrap x = x := eX (by omega) (by omega)
theorem Di {B : List Int} (h : B.length ≠ 13) : eF B = 4 := by unfold eF; rw [if_pos h]
theorem Xo {l : List Int} (h : l.length = 4) : ∃ a b c d, l = [a, b, c, d] := by
 match l, h with
 | [a, b, c, d], _ => exact ⟨a, b, c, d, rfl⟩
instance (w1 h1 : Int) (n1 : Nat) (w2 h2 : Int) (n2 : Nat) (L1 L2 : List Int) : Decidable (jh w1 h1 n1 w2 h2 n2 L1 L2) := by unfold jh; infer_instance
end Go.aa
namespace Go.aa
open Go.af Go.Sl
def kZ (l : List Ch) (k : List Int) : List Int := l.foldl (fun d c => if c.k = k then c.d else d) []
theorem mV {L : List Ch} {i : Nat} {x : Ch} (h : L[i]? = some x) : L.take (i + 1) = L.take i ++ [x] := by
 rw [List.take_add_one, h]; rfl
theorem kl {L : List Ch} {i : Nat} {x : Ch} {k : List Int} (h : L[i]? = some x) : kZ (L.take (i + 1)) k = if x.k = k then x.d else kZ (L.take i) k := by
 rw [mV h]; simp [kZ]
theorem lu {L : List Ch} {i : Nat} {x : Ch} {k : List Int} (h : L[i]? = some x) : dX (L.take (i + 1)) k = (dX (L.take i) k || (x.k == k)) := by
 rw [mV h]; simp [dX]
theorem tX {L : List Ch} {i : Nat} {x : Ch} (h : L[i]? = some x) : bW (L.take (i + 1)) = if x.k = ba then bW (L.take i) ++ x.d else bW (L.take i) := by
 rw [mV h]
 unfold bW
 rw [List.filter_append, List.flatMap_append, List.filter_cons, List.filter_nil]
 by_cases hk : x.k = ba
 ·simp [hk]
 ·simp [hk]
theorem yO (L : List Ch) (i : Nat) : iY (L.take i) ≤ iY L := by
 conv => rhs; rw [← List.take_append_drop i L]
 unfold iY
 rw [List.map_append, List.sum_append]
 omega
theorem Jf : aN ≠ aS := by decide
theorem RA : aN ≠ ba := by decide
theorem Oz : aS ≠ ba := by decide
def cnt (k : List Int) (l : List Ch) : Nat := (l.filter fun c => c.k == k).length
theorem we (k : List Int) (c : Ch) (l : List Ch) : cnt k (c :: l) = (if c.k = k then 1 else 0) + cnt k l := by
 unfold cnt
 rw [List.filter_cons]
 by_cases h : c.k = k
 ·simp [h]; omega
 ·simp [h]
theorem vQ {k : List Int} : ∀ {l : List Ch} {d : List Int}, cnt k l = 0 → l.foldl (fun d c => if c.k = k then c.d else d) d = d
 | [], d, _ => rfl
 | c :: l, d, h => by
  rw [we] at h
  have hc : c.k ≠ k := fun e => by rw [if_pos e] at h; omega
  rw [List.foldl_cons, if_neg hc]
  exact vQ (by omega)
theorem uG {k : List Int} : ∀ {l : List Ch}, cnt k l ≤ 1 → kZ l k = bu l k
 | [], _ => rfl
 | c :: l, h => by
  rw [we] at h
  unfold kZ bu
  rw [List.foldl_cons, List.find?_cons]
  by_cases hc : c.k = k
  ·rw [if_pos hc] at h ⊢
   rw [vQ (by omega)]
   simp [hc]
  ·rw [if_neg hc] at h ⊢
   have := uG (k := k) (l := l) (by omega)
   unfold kZ bu at this
   have hb : (c.k == k) = false := beq_false_of_ne hc
   simp only [hb, if_neg hc, this]
theorem EY {n i : Nat} {prev : List Int} {c : Ch} {s s2 : Od} (h : du n i prev c s = some s2) : s2.gV = s.gV + (if c.k = aN then 1 else 0) ∧ s2.fG = s.fG + (if c.k = aS then 1 else 0) := by
 have d1 : bQ ≠ aN := by decide
 have d2 : bQ ≠ aS := by decide
 have d3 : aY ≠ aN := by decide
 have d4 : aY ≠ aS := by decide
 have d5 : ba ≠ aN := by decide
 have d6 : ba ≠ aS := by decide
 have d7 : aN ≠ aS := by decide
 unfold du at h
 split at h
 ·rename_i hk
  rw [hk, if_neg d1, if_neg d2]
  split at h
  ·cases h
  ·cases h; exact ⟨rfl, rfl⟩
 ·split at h
  ·rename_i hk
   rw [hk, if_neg d3, if_neg d4]
   split at h
   ·cases h
   ·cases h; exact ⟨rfl, rfl⟩
  ·split at h
   ·rename_i hk
    rw [hk, if_neg d5, if_neg d6]
    split at h
    ·cases h
    ·cases h; exact ⟨rfl, rfl⟩
   ·split at h
    ·rename_i hk
     rw [hk, if_pos rfl, if_neg d7]
     split at h
     ·cases h
     ·cases h; exact ⟨rfl, rfl⟩
    ·rename_i hp
     split at h
     ·rename_i hk
      rw [if_neg hp, if_pos hk]
      split at h
      ·cases h
      ·cases h; exact ⟨rfl, rfl⟩
     ·rename_i hk
      rw [if_neg hp, if_neg hk]
      split at h
      ·cases h
      ·cases h; exact ⟨rfl, rfl⟩
theorem zO {n : Nat} : ∀ {l : List Ch} {i : Nat} {prev : List Int} {s : Od}, kD n i prev l s = true → s.gV + cnt aN l ≤ 1 ∧ s.fG + cnt aS l ≤ 1
 | [], i, prev, s, h => by
  rw [kD] at h
  unfold sk at h
  simp only [Bool.and_eq_true, decide_eq_true_eq] at h
  exact ⟨h.1.2, h.2⟩
 | c :: l, i, prev, s, h => by
  rw [kD] at h
  split at h
  ·cases h
  ·rename_i s2 hs
   have ih := zO h
   obtain ⟨e1, e2⟩ := EY hs
   rw [we, we]
   omega
theorem F0 {l : List Ch} (h : cD l = true) : kZ l aN = bu l aN ∧ kZ l aS = bu l aS := by
 rw [← LD] at h
 have := zO h
 exact ⟨uG (by omega), uG (by omega)⟩
theorem wg {l : List Ch} (h : cD l = true) : 3 ≤ l.length := by
 unfold cD at h
 simp only [Bool.and_eq_true, decide_eq_true_eq] at h
 exact h.1.1.1.1.1
theorem zj {k : List Int} : ∀ {L : List Ch} {i : Nat} {x : Ch}, L[i]? = some x → x.k = k → (∀ j, j < i → ∀ c, L[j]? = some c → c.k ≠ k) → bu L k = x.d ∧ dX L k = true
 | [], i, x, h, _, _ => by simp at h
 | c :: L, 0, x, h, hk, _ => by
  simp only [List.getElem?_cons_zero, Option.some.injEq] at h
  subst h
  simp [bu, dX, hk]
 | c :: L, i + 1, x, h, hk, hall => by
  simp only [List.getElem?_cons_succ] at h
  have hc := hall 0 (by omega) c rfl
  have := zj h hk (fun j hj y hy => hall (j + 1) (by omega) y (by simpa using hy))
  unfold bu dX at this ⊢
  have hb : (c.k == k) = false := beq_false_of_ne hc
  simp only [List.find?_cons, List.any_cons, hb, Bool.false_or, this]
  exact ⟨trivial, trivial⟩
theorem xm {k : List Int} : ∀ {L : List Ch}, (∀ j, j < L.length → ∀ c, L[j]? = some c → c.k ≠ k) → bu L k = [] ∧ dX L k = false
 | [], _ => ⟨rfl, rfl⟩
 | c :: L, hall => by
  have hc := hall 0 (by simp) c rfl
  have := xm (k := k) (L := L) (fun j hj y hy => hall (j + 1) (by simp; omega) y (by simpa using hy))
  unfold bu dX at this ⊢
  have hb : (c.k == k) = false := beq_false_of_ne hc
  simp only [List.find?_cons, List.any_cons, hb, Bool.false_or, this]
  exact ⟨trivial, trivial⟩
theorem nq {k : List Int} {L : List Ch} (h : dX L k = false) : bu L k = [] := by
 unfold dX at h
 unfold bu
 have : L.find? (fun c => c.k == k) = none := by
  rw [List.find?_eq_none]
  intro c hc hk
  rw [List.any_eq_false] at h
  exact h c hc hk
 rw [this]
def iB (h : Hd) (plte : List Int) (has : Bool) : Prop := if has then ¬ (h.ar = 0 ∨ h.ar = 4) ∧ (h.ar = 3 → (plte.length : Int) / 3 ≤ 2 ^ h.dep.toNat) ∧ plte.length % 3 = 0 ∧ 0 < plte.length ∧ plte.length / 3 ≤ 256 else h.ar ≠ 3
def iI (h : Hd) (plte trns : List Int) (is : Bool) : Prop := is = true → (h.ar = 3 ∧ trns.length ≤ plte.length / 3) ∨ (h.ar = 0 ∧ trns.length = 2) ∨ (h.ar = 2 ∧ trns.length = 6)
instance (h : Hd) (plte : List Int) (has : Bool) : Decidable (iB h plte has) := by unfold iB; infer_instance
instance (h : Hd) (plte trns : List Int) (is : Bool) : Decidable (iI h plte trns is) := by unfold iI; infer_instance
theorem PJ (h : Hd) (plte : List Int) : iB h plte false ↔ h.ar ≠ 3 := Iff.rfl
theorem NK {h : Hd} {plte : List Int} {P : Int} (hP : P = 2 ^ h.dep.toNat) : (h.ar = 0 ∧ ¬ iB h plte true) ∨ (¬ h.ar = 0 ∧ h.ar = 4 ∧ ¬ iB h plte true) ∨
  (¬ h.ar = 0 ∧ ¬ h.ar = 4 ∧ h.ar = 3 ∧ P < (plte.length : Int) / 3 ∧ ¬ iB h plte true) ∨
  (¬ h.ar = 0 ∧ ¬ h.ar = 4 ∧ h.ar = 3 ∧ ¬ P < (plte.length : Int) / 3 ∧ (iB h plte true ↔ plte.length % 3 = 0 ∧ 0 < plte.length ∧ plte.length / 3 ≤ 256)) ∨
  (¬ h.ar = 0 ∧ ¬ h.ar = 4 ∧ ¬ h.ar = 3 ∧ (iB h plte true ↔ plte.length % 3 = 0 ∧ 0 < plte.length ∧ plte.length / 3 ≤ 256)) := by
 subst hP
 unfold iB
 simp only [if_true]
 by_cases h0 : h.ar = 0
 ·exact .inl ⟨h0, fun hh => hh.1 (.inl h0)⟩
 ·by_cases h4 : h.ar = 4
  ·exact .inr (.inl ⟨h0, h4, fun hh => hh.1 (.inr h4)⟩)
  ·by_cases h3 : h.ar = 3
   ·by_cases hp : (2 : Int) ^ h.dep.toNat < (plte.length : Int) / 3
    ·exact .inr (.inr (.inl ⟨h0, h4, h3, hp, fun hh => Int.not_lt.2 (hh.2.1 h3) hp⟩))
    ·exact .inr (.inr (.inr (.inl ⟨h0, h4, h3, hp, ⟨fun hh => hh.2.2, fun hh => ⟨fun h => h.elim h0 h4, fun _ => Int.not_lt.1 hp, hh⟩⟩⟩)))
   ·exact .inr (.inr (.inr (.inr ⟨h0, h4, h3, ⟨fun hh => hh.2.2, fun hh => ⟨fun h => h.elim h0 h4, fun h => absurd h h3, hh⟩⟩⟩)))
theorem Nu (n : Nat) : (¬ n % 3 = 0) ∨ (n % 3 = 0 ∧ ¬ 0 < n) ∨ (n % 3 = 0 ∧ 0 < n) := by omega
theorem Om (h : Hd) (plte trns : List Int) : iI h plte trns false := fun hh => by cases hh
theorem SM (h : Hd) (plte trns : List Int) : (h.ar = 3 ∧ (iI h plte trns true ↔ trns.length ≤ plte.length / 3)) ∨ (¬ h.ar = 3 ∧ h.ar = 0 ∧ ¬ trns.length = 2 ∧ ¬ iI h plte trns true) ∨ (¬ h.ar = 3 ∧ h.ar = 0 ∧ trns.length = 2 ∧ iI h plte trns true) ∨
  (¬ h.ar = 3 ∧ ¬ h.ar = 0 ∧ h.ar = 2 ∧ ¬ trns.length = 6 ∧ ¬ iI h plte trns true) ∨ (¬ h.ar = 3 ∧ ¬ h.ar = 0 ∧ h.ar = 2 ∧ trns.length = 6 ∧ iI h plte trns true) ∨ (¬ h.ar = 3 ∧ ¬ h.ar = 0 ∧ ¬ h.ar = 2 ∧ ¬ iI h plte trns true) := by
 unfold iI
 simp only [true_implies]
 omega
theorem L3 {x P : Int} {d : Int} (hP : P = 2 ^ d.toNat) (hd : iy d) (hx : 0 ≤ x ∧ x < 65536) : IntKind.i64.wrap ((BitVec.ofInt IntKind.i64.bits x &&& BitVec.ofInt IntKind.i64.bits (P - 1)).toNat : Int) = x % P := by
 obtain ⟨n, rfl⟩ : ∃ n : Nat, x = (n : Int) := ⟨x.toNat, by omega⟩
 subst hP
 have key : ∀ m : Nat, m ≤ 16 → IntKind.i64.wrap ((BitVec.ofInt IntKind.i64.bits (n : Int) &&& BitVec.ofInt IntKind.i64.bits (2 ^ m - 1)).toNat : Int) = (n : Int) % 2 ^ m := by
  intro m hm
  have e : IntKind.i64.bits = 64 := rfl
  have hp : (2 : Nat) ^ m ≤ 2 ^ 16 := Nat.pow_le_pow_right (by decide) hm
  have hp1 : (1 : Nat) ≤ 2 ^ m := Nat.one_le_two_pow
  have e1 : BitVec.ofInt 64 ((2 : Int) ^ m - 1) = BitVec.ofNat 64 (2 ^ m - 1) := by
   rw [show (2 : Int) ^ m - 1 = ((2 ^ m - 1 : Nat) : Int) from by push_cast [hp1]; rfl, BitVec.ofInt_natCast]
  rw [e, BitVec.ofInt_natCast, e1, BitVec.toNat_and, BitVec.toNat_ofNat, BitVec.toNat_ofNat, Nat.mod_eq_of_lt (by omega), Nat.mod_eq_of_lt (by omega), Nat.and_two_pow_sub_one_eq_mod]
  have h2 : n % 2 ^ m ≤ n := Nat.mod_le ..
  rw [eX (by omega) (by omega)]
  simp
 exact key _ (by have := iU hd; omega)
theorem S7 {h : Hd} {trns : List Int} (hc : h.ar = 0 ∨ h.ar = 2) (hl : trns.length / 2 = (parts h.ar).toNat) {i : Nat} (hi : i < (parts h.ar).toNat) : (aR h trns).take (i + 1) = (aR h trns).take i ++ [(trns.getD (2 * i) 0 * 256 + trns.getD (2 * i + 1) 0) % 2 ^ h.dep.toNat] ∧ (aR h trns).length = (parts h.ar).toNat := by
 unfold aR
 rw [if_pos hc]
 refine ⟨?_, by simp [hl]⟩
 rw [List.take_add_one]
 simp [hl, hi]
theorem L0 {h : Hd} {trns : List Int} (hc : h.ar = 0 ∨ h.ar = 2) (hl : trns.length / 2 = (parts h.ar).toNat) : (aR h trns).length = (parts h.ar).toNat := by
 unfold aR
 rw [if_pos hc]; simp [hl]
theorem TE {h : Hd} {trns : List Int} (hc : ¬ (h.ar = 0 ∨ h.ar = 2)) : aR h trns = [] := by unfold aR; rw [if_neg hc]
theorem Lt (h : Hd) : aR h [] = [] := by unfold aR; split <;> rfl
end Go.aa
namespace Go.aa
open Go.af Go.Sl
theorem HX {B : List Int} (hB : ak B) {k : Nat} : bM B (16 * k) 16 = B.getD (2 * k) 0 * 256 + B.getD (2 * k + 1) 0 := by
 rw [show 16 * k = 8 * (2 * k) by omega, qy (hB.get _) (hB.get _)]
end Go.aa
namespace Go.aa
open Go.af Go.Sl
def fu (f : Fl) : Prop := deep f.hd.ar f.hd.dep ∧ ak f.plte ∧ ak f.trns ∧ f.plte.length < 500000000 ∧ f.trns.length < 500000000 ∧ (f.hd.ar = 0 → f.trns.length = 0 ∨ f.trns.length = 2) ∧ (f.hd.ar = 2 → f.trns.length = 0 ∨ f.trns.length = 6) ∧ (f.hd.ar = 4 ∨ f.hd.ar = 6 → f.trns = []) ∧ (f.hd.ar = 3 → f.plte.length % 3 = 0)
theorem gi {c d : Int} (h : deep c d) : (c = 0 ∧ parts c = 1) ∨ (c = 2 ∧ parts c = 3) ∨ (c = 3 ∧ parts c = 1) ∨ (c = 4 ∧ parts c = 2) ∨ (c = 6 ∧ parts c = 4) := by
  have hp := tZ c
  unfold deep at h
  omega
def wW (pl tr : List Int) (k : Nat) : Option (List Int) := if pl.length / 3 ≤ k then none else some [(pl.drop (3 * k)).getD 0 0 * 257, (pl.drop (3 * k)).getD 1 0 * 257, (pl.drop (3 * k)).getD 2 0 * 257, if k < tr.length then tr.getD k 0 * 257 else 65535]
def pf (f : Fl) (v : List Int) : Int := if 0 < (aR f.hd f.trns).length ∧ v = aR f.hd f.trns then 0 else if f.hd.ar = 4 ∨ f.hd.ar = 6 then (v.map (up f.hd.dep)).getD ((v.map (up f.hd.dep)).length - 1) 0 else 65535
theorem xh {f : Fl} {v : List Int} (h : f.hd.ar = 3) : fy f v = wW f.plte f.trns (v.getD 0 0).toNat := by
  unfold fy wW
  rw [if_pos h]
  split
  · rfl
  · rw [fF, fF, fF]
    rfl
theorem tU {f : Fl} {v : List Int} (h : ¬ f.hd.ar = 3) : fy f v = some (if f.hd.ar = 0 ∨ f.hd.ar = 4 then [(v.map (up f.hd.dep)).getD 0 0, (v.map (up f.hd.dep)).getD 0 0, (v.map (up f.hd.dep)).getD 0 0, pf f v] else [(v.map (up f.hd.dep)).getD 0 0, (v.map (up f.hd.dep)).getD 1 0, (v.map (up f.hd.dep)).getD 2 0, pf f v]) := by
  unfold fy pf
  rw [if_neg h]
  show (if f.hd.ar = 0 ∨ f.hd.ar = 4 then _ else _) = _
  split <;> rfl
theorem zU {f : Fl} {v : List Int} (h : f.hd.ar = 0 ∨ f.hd.ar = 4) : fy f v = some [(v.map (up f.hd.dep)).getD 0 0, (v.map (up f.hd.dep)).getD 0 0, (v.map (up f.hd.dep)).getD 0 0, pf f v] := by rw [tU (by omega), if_pos h]
theorem KI {f : Fl} {v : List Int} (h : ¬ (f.hd.ar = 0 ∨ f.hd.ar = 4)) (h3 : ¬ f.hd.ar = 3) : fy f v = some [(v.map (up f.hd.dep)).getD 0 0, (v.map (up f.hd.dep)).getD 1 0, (v.map (up f.hd.dep)).getD 2 0, pf f v] := by rw [tU h3, if_neg h]
theorem N5 {pl tr : List Int} {k : Nat} (h : pl.length / 3 ≤ k) : wW pl tr k = none := if_pos h
theorem E5 {pl tr : List Int} {k : Nat} (h : ¬ pl.length / 3 ≤ k) : wW pl tr k = some [(pl.drop (3 * k)).getD 0 0 * 257, (pl.drop (3 * k)).getD 1 0 * 257, (pl.drop (3 * k)).getD 2 0 * 257, if k < tr.length then tr.getD k 0 * 257 else 65535] := if_neg h
theorem BY {v : List Int} {d : Int} {i : Nat} (h : i < v.length) : (v.map (up d)).take i ++ [up d (v.getD i 0)] = (v.map (up d)).take (i + 1) := by
  rw [List.take_add_one]
  simp [h, List.getD_eq_getElem?_getD]
def sm (h : Hd) (row : List Int) (x i : Nat) : Int := bM row (x * (parts h.ar).toNat * h.dep.toNat + i * h.dep.toNat) h.dep.toNat
theorem kH (h : Hd) (row : List Int) (x : Nat) : (dJ h row x).length = (parts h.ar).toNat := by simp [dJ]
theorem K3 {h : Hd} {row : List Int} {x i : Nat} (hi : i < (parts h.ar).toNat) : (dJ h row x).getD i 0 = sm h row x i := by simp [dJ, sm, hi, List.getD_eq_getElem?_getD]
theorem uT {h : Hd} {row : List Int} {x : Nat} : ∀ y ∈ dJ h row x, 0 ≤ y ∧ y < 2 ^ h.dep.toNat := fun y hy => by
  unfold dJ at hy
  obtain ⟨i, _, rfl⟩ := List.mem_map.1 hy
  exact lI _ _ _
def ZX (S : List Int) (i : Nat) : List Int := S.take i ++ List.replicate (4 - i) 0
def ky (h : Hd) (tr S : List Int) (i : Nat) : Bool := decide (0 < tr.length) && (List.range i).all fun j => decide ((tr.getD (2 * j) 0 * 256 + tr.getD (2 * j + 1) 0) % 2 ^ h.dep.toNat = S.getD j 0)
theorem L6 {w bits : Int} {x : Nat} {n : Nat} (hx : (x : Int) < w) (hb : 0 ≤ bits) (hn : (n : Int) = dv w bits) : (x : Int) * bits + bits ≤ 8 * n := by
  rw [hn]
  unfold dv
  have h1 : ((x : Int) + 1) * bits ≤ w * bits := Int.mul_le_mul_of_nonneg_right (by omega) hb
  rw [Int.add_mul, Int.one_mul] at h1
  omega
end Go.aa
namespace Go.aa
open Go.af Go.Sl
theorem hG {l : List Int} {i : Nat} (h : i < l.length) : l.getD i 0 ∈ l := by
  rw [List.getD_eq_getElem?_getD, List.getElem?_eq_getElem h]
  exact List.getElem_mem h
theorem wB {a b c d a' b' c' d' : Int} (h : some [a, b, c, d] = some [a', b', c', d']) : a = a' ∧ b = b' ∧ c = c' ∧ d = d' := by
  simpa using h
theorem tf (b : Bool) : b = true ∨ b = false := by cases b <;> simp
end Go.aa
namespace Go.aa
open Go.af Go.Sl
theorem LX (f : Fl) (v : List Int) : fy f v = none ∨ ∃ a b c d, fy f v = some [a, b, c, d] := by
  by_cases h3 : f.hd.ar = 3
  · rw [xh h3]
    unfold wW
    split
    · exact .inl rfl
    · exact .inr ⟨_, _, _, _, rfl⟩
  · rw [tU h3]
    split
    · exact .inr ⟨_, _, _, _, rfl⟩
    · exact .inr ⟨_, _, _, _, rfl⟩
def vN (S old : List Int) (k : Nat) : List Int := S.take k ++ old.drop k
theorem W0 (S old : List Int) : vN S old 0 = old := rfl
theorem NI {S old : List Int} {k : Nat} (h : S.length = old.length) (hk : k ≤ S.length) : (vN S old k).length = S.length := by simp [vN]; omega
theorem OR {S old : List Int} (h : S.length = old.length) : vN S old S.length = S := by
  unfold vN
  rw [List.take_length, List.drop_eq_nil_of_le (by omega), List.append_nil]
theorem XH {S old : List Int} {k : Nat} (h : S.length = old.length) (hk : k < S.length) : (vN S old k).set k (S.getD k 0) = vN S old (k + 1) := by
  unfold vN
  have hl : (S.take k).length = k := by rw [List.length_take]; omega
  rw [List.drop_eq_getElem_cons (show k < old.length by omega), Ap hl, List.take_add_one, List.append_assoc]
  congr 1
  simp [hk, List.getD_eq_getElem?_getD]
theorem Xz {h : Hd} {row old : List Int} {x N D k : Nat} (hN : N = (parts h.ar).toNat) (hD : D = h.dep.toNat) (ho : old.length = N) (hk : k < N) : (vN (dJ h row x) old k).set ((k : Int)).toNat (bM row (x * N * D + k * D) D) = vN (dJ h row x) old (k + 1) := by
  subst hN; subst hD
  have e := K3 (h := h) (row := row) (x := x) hk
  unfold sm at e
  rw [← e, show ((k : Int)).toNat = k from rfl]
  exact XH (by rw [kH, ho]) (by rw [kH]; exact hk)
def kb (p : Ps) (w h : Int) : Prop := iX p ∧ (∀ k : Int, 0 ≤ k → k < p.w → p.x + k * p.dx < w) ∧ ∀ k : Int, 0 ≤ k → k < p.h → p.y + k * p.dy < h
theorem MF {x y dx dy w h : Int} (hx : 0 ≤ x ∧ x ≤ 8) (hy : 0 ≤ y ∧ y ≤ 8) (hdx : dx = 1 ∨ dx = 2 ∨ dx = 4 ∨ dx = 8) (hdy : dy = 1 ∨ dy = 2 ∨ dy = 4 ∨ dy = 8) (hw : 0 ≤ w ∧ w ≤ 256) (hh : 0 ≤ h ∧ h ≤ 256) : kb (sW x y dx dy w h) w h :=
  ⟨Dw hx hy hdx hdy hw hh, fun k h0 hk => (zA hdx h0).2 hk, fun k h0 hk => (zA hdy h0).2 hk⟩
theorem vI {w h : Int} (hw : 0 ≤ w ∧ w ≤ 256) (hh : 0 ≤ h ∧ h ≤ 256) : ∀ p ∈ eS w h, kb p w h := fun p hp => by
  have hm := (List.mem_filter.1 hp).1
  unfold hI at hm
  simp only [List.mem_cons, List.not_mem_nil, or_false] at hm
  rcases hm with rfl | rfl | rfl | rfl | rfl | rfl | rfl <;> exact MF (by decide) (by decide) (by decide) (by decide) hw hh
theorem xA {w h : Int} (hw : 0 ≤ w ∧ w ≤ 256) (hh : 0 ≤ h ∧ h ≤ 256) : ∀ p ∈ whole w h, kb p w h := fun p hp => by
  have := (yP hw hh).1 p hp
  unfold whole at hp
  rw [List.mem_singleton.1 hp] at this ⊢
  exact ⟨this, fun k h0 hk => by show 0 + k * 1 < w; have : k < w := hk; omega, fun k h0 hk => by show 0 + k * 1 < h; have : k < h := hk; omega⟩
section
variable {f : Fl} {p : Ps} {y : Int} {row : List Int} {i : Nat} {P : List Int} {r : Option (List Int)}
theorem Oe (hi : (i : Int) < p.w) (hpx : fy f (dJ f.hd row i) = none) (h : dS f p y row (p.w.toNat - i) i P = r) : r = none := by
  rw [show p.w.toNat - i = (p.w.toNat - (i + 1)) + 1 by omega, dS, hpx] at h
  exact h.symm
theorem N4 {c : List Int} (hi : (i : Int) < p.w) (hpx : fy f (dJ f.hd row i) = some c) (h : dS f p y row (p.w.toNat - i) i P = r) : dS f p y row (p.w.toNat - (i + 1)) (i + 1) (kW f.hd.w P (p.x + i * p.dx) (p.y + y * p.dy) c) = r := by
  rw [show p.w.toNat - i = (p.w.toNat - (i + 1)) + 1 by omega, dS, hpx] at h
  exact h
theorem SP (hi : ¬ (i : Int) < p.w) (h : dS f p y row (p.w.toNat - i) i P = r) : r = some P := by
  rw [show p.w.toNat - i = 0 by omega, dS] at h
  exact h.symm
end
section
variable {f : Fl} {D : List Int} {n back : Nat} {p : Ps} {y a : Nat} {A P : List Int} {r : Option (Nat × List Int)}
theorem Lg (hy : (y : Int) < p.h) (hk : 4 < D.getD a 0) (h : eg f D n back p (p.h.toNat - y) y a A P = r) : r = none := by
  rw [show p.h.toNat - y = (p.h.toNat - (y + 1)) + 1 by omega, eg, if_pos hk] at h
  exact h.symm
theorem Lq (hy : (y : Int) < p.h) (hk : ¬ 4 < D.getD a 0) (hr : dS f p y (eJ (D.getD a 0) ((D.drop (a + 1)).take n) A back) p.w.toNat 0 P = none) (h : eg f D n back p (p.h.toNat - y) y a A P = r) : r = none := by
  rw [show p.h.toNat - y = (p.h.toNat - (y + 1)) + 1 by omega, eg, if_neg hk, hr] at h
  exact h.symm
theorem L4 {P2 : List Int} (hy : (y : Int) < p.h) (hk : ¬ 4 < D.getD a 0) (hr : dS f p y (eJ (D.getD a 0) ((D.drop (a + 1)).take n) A back) p.w.toNat 0 P = some P2) (h : eg f D n back p (p.h.toNat - y) y a A P = r) : eg f D n back p (p.h.toNat - (y + 1)) (y + 1) (a + 1 + n) (eJ (D.getD a 0) ((D.drop (a + 1)).take n) A back) P2 = r := by
  rw [show p.h.toNat - y = (p.h.toNat - (y + 1)) + 1 by omega, eg, if_neg hk, hr] at h
  exact h
theorem J0 (hy : ¬ (y : Int) < p.h) (h : eg f D n back p (p.h.toNat - y) y a A P = r) : r = some (a, P) := by
  rw [show p.h.toNat - y = 0 by omega, eg] at h
  exact h.symm
theorem S4 (f : Fl) (D : List Int) (n back : Nat) (p : Ps) (y a : Nat) (A P : List Int) : 4 < D.getD a 0 ∨ (¬ 4 < D.getD a 0 ∧ dS f p y (eJ (D.getD a 0) ((D.drop (a + 1)).take n) A back) p.w.toNat 0 P = none) ∨ (¬ 4 < D.getD a 0 ∧ ∃ P2, dS f p y (eJ (D.getD a 0) ((D.drop (a + 1)).take n) A back) p.w.toNat 0 P = some P2) := by
  by_cases h : 4 < D.getD a 0
  · exact .inl h
  · cases hr : dS f p y (eJ (D.getD a 0) ((D.drop (a + 1)).take n) A back) p.w.toNat 0 P with
    | none => exact .inr (.inl ⟨h, rfl⟩)
    | some P2 => exact .inr (.inr ⟨h, P2, rfl⟩)
end
theorem RO (x : Int) : (if 1 < x then x else 1) = max 1 x := by split <;> omega
theorem ux (kind : Int) (row above : List Int) (back : Nat) : ak (eJ kind row above back) := sa kind row above back row.length
def m0 (bits : Int) (l : List Ps) : Nat := (l.map fun p => p.h.toNat * (1 + (dv p.w bits).toNat)).sum
theorem DA (bits : Int) (p : Ps) (l : List Ps) : m0 bits (p :: l) = p.h.toNat * (1 + (dv p.w bits).toNat) + m0 bits l := by simp [m0]
theorem sC {bits : Int} (hb : 0 ≤ bits ∧ bits ≤ 64) : ∀ {l : List Ps}, (∀ p ∈ l, iX p ∧ 0 < p.w) → (m0 bits l : Int) = eY l bits
  | [], _ => rfl
  | p :: l, h => by
    have ih := sC hb (fun q hq => h q (List.mem_cons_of_mem _ hq))
    obtain ⟨ho, hw⟩ := h p (List.mem_cons_self ..)
    obtain ⟨_, _, _, _, _, _, hw0, hw1, hh0, hh1⟩ := ho
    have hr := nw ⟨hw0, hw1⟩ hb
    rw [DA]
    unfold eY at ih ⊢
    rw [List.map_cons, List.sum_cons, if_pos hw, ← ih]
    push_cast
    rw [Int.toNat_of_nonneg hh0, Int.toNat_of_nonneg hr.2.2.1]
theorem FX {w h : Int} : ∀ p ∈ eS w h, 0 < p.w := fun p hp => by
  have := (List.mem_filter.1 hp).2
  simp only [Bool.and_eq_true, decide_eq_true_eq] at this
  exact this.1
theorem Kr {w h : Int} (hw : 0 < w) : ∀ p ∈ whole w h, 0 < p.w := fun p hp => by
  unfold whole at hp
  rw [List.mem_singleton.1 hp]
  exact hw
end Go.aa
namespace Go.aa
open Go.af Go.Sl
theorem gK : ak [] := fun x hx => by cases hx
theorem wX {h : Hd} {p : Ps} {nr : Nat} (hp : 0 ≤ parts h.ar) (hd : 0 ≤ h.dep) (hnr : (nr : Int) = dv p.w (parts h.ar * h.dep)) : ∀ i : Nat, (i : Int) < p.w → i * (parts h.ar).toNat * h.dep.toNat + (parts h.ar).toNat * h.dep.toNat ≤ 8 * nr := fun i hi => by
  have hb := L6 hi (Int.mul_nonneg hp hd) hnr
  have e1 : ((i * (parts h.ar).toNat * h.dep.toNat + (parts h.ar).toNat * h.dep.toNat : Nat) : Int) = (i : Int) * (parts h.ar * h.dep) + parts h.ar * h.dep := by
    push_cast
    rw [Int.toNat_of_nonneg hp, Int.toNat_of_nonneg hd, Int.mul_assoc]
  omega
end Go.aa
namespace Go.aa
open Go.af Go.Sl
theorem jQ {h : Hd} (hs : aW h.w h.h = 0) : (∀ p ∈ aO h, kb p h.w h.h ∧ iX p ∧ 0 < p.w) ∧ (aO h).length ≤ 7 := by
  have hsd := jj hs
  unfold aO
  cases h.aZ with
  | true => exact ⟨fun p hp => ⟨vI (by omega) (by omega) p hp, (vI (by omega) (by omega) p hp).1, FX p hp⟩, (Ex (by omega) (by omega)).2⟩
  | false => exact ⟨fun p hp => ⟨xA (by omega) (by omega) p hp, (xA (by omega) (by omega) p hp).1, Kr (by omega) p hp⟩, (yP (by omega) (by omega)).2⟩
theorem BQ {h : Hd} (hl : h.aZ = true) : eS h.w h.h = aO h := by unfold aO; rw [hl]; rfl
theorem BT {h : Hd} (hl : h.aZ = false) : whole h.w h.h = aO h := by unfold aO; rw [hl]; rfl
def lk (f : Fl) (z : List Int × Int) : pH × Int := if z.2 ≠ 0 then (dC, z.2) else if (z.1.length : Int) < want f.hd then (dC, 2) else match eu f z.1 (aO f.hd) 0 (iZ f.hd) with | none => (dC, 4) | some pix => (⟨f.hd.w, f.hd.h, pix⟩, 0)
theorem X3 (f : Fl) (z : List Int × Int) : (z.2 ≠ 0 ∧ lk f z = (dC, z.2)) ∨ (¬ z.2 ≠ 0 ∧ (z.1.length : Int) < want f.hd ∧ lk f z = (dC, 2)) ∨ (¬ z.2 ≠ 0 ∧ ¬ (z.1.length : Int) < want f.hd) := by
  by_cases h1 : z.2 ≠ 0
  · exact .inl ⟨h1, if_pos h1⟩
  · by_cases h2 : (z.1.length : Int) < want f.hd
    · exact .inr (.inl ⟨h1, h2, by unfold lk; rw [if_neg h1, if_pos h2]⟩)
    · exact .inr (.inr ⟨h1, h2⟩)
theorem HZ {f : Fl} {z : List Int × Int} (h1 : ¬ z.2 ≠ 0) (h2 : ¬ (z.1.length : Int) < want f.hd) (h : eu f z.1 (aO f.hd) 0 (iZ f.hd) = none) : lk f z = (dC, 4) := by unfold lk; rw [if_neg h1, if_neg h2, h]
theorem H5 {f : Fl} {z : List Int × Int} {pix : List Int} (h1 : ¬ z.2 ≠ 0) (h2 : ¬ (z.1.length : Int) < want f.hd) (h : eu f z.1 (aO f.hd) 0 (iZ f.hd) = some pix) : lk f z = (⟨f.hd.w, f.hd.h, pix⟩, 0) := by unfold lk; rw [if_neg h1, if_neg h2, h]
theorem Et {h : Hd} (hs : aW h.w h.h = 0) (hd : deep h.ar h.dep) : (m0 (bitsOf h) (aO h) : Int) = want h := by
  have hb := lh hd
  exact sC ⟨by unfold bitsOf; omega, by unfold bitsOf; omega⟩ (fun p hp => ⟨((jQ hs).1 p hp).2.1, ((jQ hs).1 p hp).2.2⟩)
theorem LH {h : Hd} (hs : aW h.w h.h = 0) (hd : deep h.ar h.dep) : 0 ≤ want h ∧ want h < 500000000 := by
  have hb := lh hd
  have h1 := vU (l := aO h) (bits := bitsOf h) ⟨by unfold bitsOf; omega, by unfold bitsOf; omega⟩ (fun p hp => ((jQ hs).1 p hp).2.1)
  have h7 := (jQ hs).2
  unfold want
  omega
theorem uN {l : List Ps} {i : Nat} (h : i < l.length) : l.drop i = l.getD i ⟨0, 0, 0, 0, 0, 0⟩ :: l.drop (i + 1) := by
  rw [List.drop_eq_getElem_cons h, List.getD_eq_getElem?_getD, List.getElem?_eq_getElem h]
  rfl
def kR (h : Hd) (p : Ps) : Nat := (dv p.w (bitsOf h)).toNat
def m8 (h : Hd) : Nat := (max 1 (bitsOf h / 8)).toNat
theorem Ak {h : Hd} {p : Ps} (hp : iX p) (hd : deep h.ar h.dep) : (kR h p : Int) = dv p.w (parts h.ar * h.dep) := by
  have hb := lh hd
  obtain ⟨_, _, _, _, _, _, hw0, hw1, _, _⟩ := hp
  have := nw (w := p.w) (bits := parts h.ar * h.dep) ⟨hw0, hw1⟩ (by omega)
  exact Int.toNat_of_nonneg this.2.2.1
theorem zM (h : Hd) : (m8 h : Int) = max 1 (parts h.ar * h.dep / 8) := Int.toNat_of_nonneg (by unfold bitsOf; omega)
section
variable {f : Fl} {D : List Int} {l : List Ps} {i a : Nat} {P : List Int} {x : Ps} {r : Option (List Int)}
theorem OT (hi : i < l.length) (hx : x = l.getD i ⟨0, 0, 0, 0, 0, 0⟩) (hr : eg f D (kR f.hd x) (m8 f.hd) x x.h.toNat 0 a [] P = none) (h : eu f D (l.drop i) a P = r) : r = none := by
  rw [uN hi, ← hx, eu] at h
  unfold kR m8 at hr
  rw [hr] at h
  exact h.symm
theorem O7 {a2 : Nat} {P2 : List Int} (hi : i < l.length) (hx : x = l.getD i ⟨0, 0, 0, 0, 0, 0⟩) (hr : eg f D (kR f.hd x) (m8 f.hd) x x.h.toNat 0 a [] P = some (a2, P2)) (h : eu f D (l.drop i) a P = r) : eu f D (l.drop (i + 1)) a2 P2 = r := by
  rw [uN hi, ← hx, eu] at h
  unfold kR m8 at hr
  rw [hr] at h
  exact h
theorem OM (hi : ¬ i < l.length) (h : eu f D (l.drop i) a P = r) : r = some P := by
  rw [List.drop_eq_nil_of_le (by omega), eu] at h
  exact h.symm
theorem PQ {bits : Int} (hi : i < l.length) (hx : x = l.getD i ⟨0, 0, 0, 0, 0, 0⟩) : m0 bits (l.drop i) = x.h.toNat * (1 + (dv x.w bits).toNat) + m0 bits (l.drop (i + 1)) := by rw [uN hi, ← hx, DA]
theorem Ye (o : Option (Nat × List Int)) : o = none ∨ ∃ a P, o = some (a, P) := by
  match o with
  | none => exact .inl rfl
  | some (a, P) => exact .inr ⟨a, P, rfl⟩
end
inductive Zb (B : List Int) (r : pH × Int) : Prop
  | cut (e : Int) (h : aa.cut B = .error e) (hr : r = (dC, e))
  | ord (l : List Ch) (h : aa.cut B = .ok l) (ho : cD l = false) (hr : r = (dC, 4))
  | head (l : List Ch) (h : aa.cut B = .ok l) (ho : cD l = true) (hh : eF (dq l) ≠ 0) (hr : r = (dC, eF (dq l)))
  | tab1 (l : List Ch) (h : aa.cut B = .ok l) (ho : cD l = true) (hh : eF (dq l) = 0) (ht : ¬ iB (aL (dq l)) (bu l aN) (dX l aN)) (hr : r = (dC, 4))
  | tab2 (l : List Ch) (h : aa.cut B = .ok l) (ho : cD l = true) (hh : eF (dq l) = 0) (ht : iB (aL (dq l)) (bu l aN) (dX l aN)) (hc : ¬ iI (aL (dq l)) (bu l aN) (bu l aS) (dX l aS)) (hr : r = (dC, 4))
  | open_ (l : List Ch) (z : List Int × Int) (h : aa.cut B = .ok l) (ho : cD l = true) (hh : eF (dq l) = 0) (ht : iB (aL (dq l)) (bu l aN) (dX l aN)) (hc : iI (aL (dq l)) (bu l aN) (bu l aS) (dX l aS)) (hz : aH.lZ (bW l) (want (aL (dq l))) z) (hr : r = lk (oG l) z)
theorem jV.WZ {B : List Int} {r : pH × Int} (h : jV B r) : Zb B r := by
  rcases h.ways with ⟨e, h1, h2⟩ | ⟨l, h1, h2, h3⟩ | ⟨l, h1, h2, h3, h4⟩ | ⟨l, h1, h2, h3, h4, h5⟩ | ⟨l, q, h1, h2, h3, h4, h5, h6⟩
  · exact .cut e h1 h2
  · exact .ord l h1 h2 h3
  · exact .head l h1 h2 h3 h4
  · by_cases ha : iB (aL (dq l)) (bu l aN) (dX l aN)
    · exact .tab2 l h1 h2 h3 ha (fun q => h4 ⟨ha, q⟩) h5
    · exact .tab1 l h1 h2 h3 ha h5
  · refine .open_ l q h1 h2 h3 h4.1 h4.2 h5 ?_
    rcases h6 with ⟨a, b⟩ | ⟨a, b, c⟩ | ⟨a, b, c, d⟩ | ⟨pix, a, b, c, d⟩
    · rw [b]; unfold lk; rw [if_pos a]
    · rw [c]; unfold lk; rw [if_neg (fun q => q a)]; exact (if_pos b).symm
    · rw [d]; exact (HZ (fun q => q a) (by show ¬ _ < want (aL (dq l)); omega) c).symm
    · rw [d]; exact (H5 (f := oG l) (fun q => q a) (by show ¬ _ < want (aL (dq l)); omega) c).symm
theorem sj {B : List Int} (h : eF B = 0) : deep (aL B).ar (aL B).dep ∧ aW (aL B).w (aL B).h = 0 := by
  rcases AL B with ⟨_, e⟩ | ⟨_, _, e⟩ | ⟨_, _, _, e⟩ | ⟨_, _, _, _, e⟩ | ⟨_, _, _, _, _, e⟩ | ⟨_, _, _, _, _, _, e⟩ | ⟨_, _, _, _, _, _, _, e⟩ | ⟨_, h1, _, _, _, _, h2, _⟩
  all_goals first | (rw [h] at e; exact absurd e (by decide)) | exact ⟨h1, Classical.not_not.1 h2⟩
theorem JY {h : Hd} {pl tr : List Int} {has is : Bool} (hd : deep h.ar h.dep) (hB : ak pl) (hBt : ak tr) (hpl : pl.length < 500000000) (htl : tr.length < 500000000) (ha : iB h pl has) (hc : iI h pl tr is) (h0 : has = false → pl = []) (h1 : is = false → tr = []) : fu ⟨h, pl, tr⟩ := by
  refine ⟨hd, hB, hBt, hpl, htl, fun q => ?_, fun q => ?_, fun q => ?_, fun q => ?_⟩
  all_goals have q : _ := q
  · cases is with
    | false => exact .inl (by rw [h1 rfl]; rfl)
    | true => have := hc rfl; have q : h.ar = 0 := q; show tr.length = 0 ∨ tr.length = 2; omega
  · cases is with
    | false => exact .inl (by rw [h1 rfl]; rfl)
    | true => have := hc rfl; have q : h.ar = 2 := q; show tr.length = 0 ∨ tr.length = 6; omega
  · cases is with
    | false => exact h1 rfl
    | true => have := hc rfl; have q : h.ar = 4 ∨ h.ar = 6 := q; omega
  · have q : h.ar = 3 := q
    cases has with
    | false => exact absurd q ha
    | true => exact ha.2.2.1
theorem K8 (h : Hd) : eY (aO h) (parts h.ar * h.dep) = want h := rfl
theorem HF {l : List Ps} {i : Nat} (h : i < l.length) : l.getD i ⟨0, 0, 0, 0, 0, 0⟩ ∈ l := by
  rw [List.getD_eq_getElem?_getD, List.getElem?_eq_getElem h]
  exact List.getElem_mem h
theorem Pt {B : List Int} {mo : Int} {q : List Int × Int} (hB : ak B) (hm : mo < 500000000) (h : aH.lZ B mo q) : ak q.1 ∧ q.1.length < 500000000 := by
  rcases h.ways hB hm with ⟨_, rfl⟩ | ⟨_, _, rfl⟩ | ⟨e, _, _, _, _, rfl⟩ | ⟨x, n, _, _, _, _, _, _, _, rfl⟩ | ⟨x, n, _, _, _, _, _, _, _, rfl⟩ | ⟨x, n, _, _, _, _, _, _, _, _, rfl⟩ | ⟨x, n, _, _, _, h1, h2, _, _, _, rfl⟩
  · exact ⟨gK, Nat.zero_lt_succ _⟩
  · exact ⟨gK, Nat.zero_lt_succ _⟩
  · exact ⟨gK, Nat.zero_lt_succ _⟩
  · exact ⟨gK, Nat.zero_lt_succ _⟩
  · exact ⟨gK, Nat.zero_lt_succ _⟩
  · exact ⟨gK, Nat.zero_lt_succ _⟩
  · exact ⟨h1, h2⟩
end Go.aa
namespace Go.aa
open Go.af Go.Sl
theorem Ha {L : List Int} {e : Int} (h : first L = .error e) : e ≠ 0 := by
  unfold first at h
  split at h
  · cases h; decide
  · split at h
    · cases h; decide
    · split at h
      · cases h; decide
      · split at h
        · cases h
        · cases h; decide
theorem zK : ∀ {f : Nat} {L : List Int} {a : List Ch} {e : Int}, fx f L a = .error e → e ≠ 0
  | 0, L, a, e, h => by rw [fx] at h; cases h; decide
  | f + 1, L, a, e, h => by
    rw [fx] at h
    split at h
    · rename_i e' he; cases h; exact Ha he
    · split at h
      · split at h
        · cases h
        · cases h; decide
      · exact zK h
theorem RW {B : List Int} {e : Int} (h : cut B = .error e) : e ≠ 0 := by
  unfold cut at h
  split at h
  · cases h; decide
  · split at h
    · cases h; decide
    · split at h
      · exact zK h
      · cases h; decide
theorem kU {l : List Ch} (h : ∀ c ∈ l, ak c.d) (k : List Int) : ak (bu l k) := by
  unfold bu
  split
  · rename_i c hc; exact h c (List.mem_of_find?_eq_some hc)
  · exact gK
theorem OY {l : List Ch} {h : Hd} {P T : List Int} (h1 : h = aL (dq l)) (h2 : P = bu l aN) (h3 : T = bu l aS) : oG l = ⟨h, P, T⟩ := by subst h1; subst h2; subst h3; rfl
end Go.aa
namespace Go.aa
open Go.af Go.Sl
theorem OK {L : List Ch} {i : Nat} {x : Ch} (h : L[i]? = some x) : aU (L.take (i + 1)) = aU (L.take i) ++ eA x := by
  rw [mV h]
  unfold aU gw
  rw [List.flatMap_append, List.append_assoc]
  simp
theorem join_le (L : List Ch) (i : Nat) : (aU (L.take i)).length ≤ (aU L).length := by
  conv => rhs; rw [← List.take_append_drop i L]
  unfold aU gw
  rw [List.flatMap_append]
  simp only [List.length_append]
  omega
theorem Nw (L : List Ch) : aU (L.take 0) = ee := by unfold aU gw; simp
theorem NZ {J k d : List Int} {n s : Int} (hn : n = (d.length : Int)) (hs : s = gj k d) : J ++ [n / 16777216 % 256, n / 65536 % 256, n / 256 % 256, n % 256] ++ k ++ d ++ [s / 16777216 % 256, s / 65536 % 256, s / 256 % 256, s % 256] = J ++ eA ⟨k, d⟩ := by
  subst hn; subst hs
  unfold eA ng
  simp only [List.append_assoc]
theorem Ht (x : Ch) : (eA x).length = 4 + x.k.length + x.d.length + 4 := by
  unfold eA
  simp only [List.length_append, Bo]
  omega
theorem M5 (P : List Int) (W y : Nat) : bY P W y ++ [0] ++ two ((P.drop (4 * W * y)).take (4 * W)) = bY P W (y + 1) := by
  rw [bY, ib, List.append_assoc]; rfl
theorem Un {l : List Int} {i : Nat} (h : i < l.length) : two (l.take i) ++ [l.getD i 0 / 256, l.getD i 0 % 256] = two (l.take (i + 1)) := by
  rw [List.take_add_one]
  unfold two
  rw [List.flatMap_append]
  congr 1
  simp [h, List.getD_eq_getElem?_getD]
theorem LG : jV [] (dC, 2) := by
  unfold jV cut
  rfl
theorem EN : Sz [0, 0, 7, 65535] 1 1 := ⟨by decide, by decide, by decide, rfl, fun x hx => by
  simp only [List.mem_cons, List.not_mem_nil, or_false] at hx
  rcases hx with rfl | rfl | rfl | rfl <;> decide⟩
end Go.aa
namespace Go.aa
open Go.af Go.Sl
theorem EV {P : List Int} {W H y i : Nat} (hP : P.length = 4 * W * H) (hy : y < H) (hi : i < 4 * W) : ((P.drop (4 * W * y)).take (4 * W)).length = 4 * W ∧ ((P.drop (4 * W * y)).take (4 * W)).getD i 0 = P.getD (4 * W * y + i) 0 ∧ 4 * W * y + i < P.length := by
  have : 4 * W * (y + 1) ≤ 4 * W * H := Nat.mul_le_mul_left _ hy
  rw [Nat.mul_succ] at this
  refine ⟨by rw [List.length_take, List.length_drop]; omega, ?_, by omega⟩
  rw [List.getD_eq_getElem?_getD, List.getD_eq_getElem?_getD, List.getElem?_take, if_pos hi, List.getElem?_drop]
theorem zD {P : List Int} {W H y : Nat} (s : Sz P W H) (hy : y ≤ H) : (bY P W y).length ≤ 131328 := by
  obtain ⟨r, h⟩ := rK P W y (H - y)
  have h2 := nb s
  rw [show y + (H - y) = H by omega] at h
  rw [h, List.length_append] at h2
  omega
def jO (P : List Int) (W y i : Nat) : List Int := bY P W y ++ [0] ++ two (((P.drop (4 * W * y)).take (4 * W)).take i)
theorem Ey (P : List Int) (W y : Nat) : bY P W y ++ [0] = jO P W y 0 := by unfold jO; simp [two]
theorem Mz {P : List Int} {W H y i : Nat} (hP : P.length = 4 * W * H) (hy : y < H) (hi : i < 4 * W) : jO P W y i ++ [P.getD (4 * W * y + i) 0 / 256, P.getD (4 * W * y + i) 0 % 256] = jO P W y (i + 1) := by
  obtain ⟨h1, h2, _⟩ := EV hP hy hi
  unfold jO
  rw [← h2, List.append_assoc, Un (by omega)]
theorem RT {P : List Int} {W H y : Nat} (hP : P.length = 4 * W * H) (hy : y < H) : jO P W y (4 * W) = bY P W (y + 1) := by
  unfold jO
  rw [List.take_of_length_le (Nat.le_trans (List.length_take_le _ _) (Nat.le_refl _))]
  exact M5 P W y
theorem LF {P : List Int} {W H y i : Nat} (s : Sz P W H) (hy : y ≤ H) (hi : i ≤ 4 * W) : (jO P W y i).length ≤ 140000 := by
  have h1 := zD s hy
  have h2 := s.w.2
  unfold jO
  simp only [List.length_append, Ar, List.length_take, List.length_cons, List.length_nil]
  omega
theorem Xw {P : List Int} {W H : Nat} (s : Sz P W H) : P.length ≤ 65536 := by
  have h1 := s.len
  have h2 := s.wh
  rw [Nat.mul_assoc] at h1
  omega
def Good (r : pH × Int) : Prop := (r.2 ≠ 0 ∧ r.1 = dC) ∨ (r.2 = 0 ∧ aW r.1.w r.1.h = 0 ∧ (r.1.pix.length : Int) = 4 * r.1.w * r.1.h)
end Go.aa
namespace Go.aa
open Go.af Go.Sl
end Go.aa
namespace Go.Sl
abbrev I3 : Ec Int := aD 3 .i64
abbrev o9 : Ec (Int × Int) := ⟨279, 2, fun x => [.int .i64 x.1, .int .i64 x.2], (0, 0), fun _ => rfl, fun _ => rfl⟩
structure Cv where
  p1 : Option Addr
  c1 : Nat
  p2 : Option Addr
  c2 : Nat
def HC (b : Nat) (ls : List Int) : ab := fun w0 h => ∃ i : Cv, True ∧ bU w0 [ai b 275 (CA [.slice i.p1 ls.length i.c1] .i64 (ae.bJ ls) [.slice i.p2 (ae.ord ls).length i.c2, .int .i64 (ae.bX ls)]), Row o9 i.p1 ls.length i.c1 (ae.words ls), Row I3 i.p2 (ae.ord ls).length i.c2 (ae.ord ls)] h
theorem ob {b c1 c2 : Nat} {p1 p2 : Option Addr} {ls : List Int} {ws : List (Int × Int)} {w0 : World} {h : Hp} (e : ws = ae.words ls)
    (hh : bU w0 [ai b 275 (CA [.slice p1 ls.length c1] .i64 (ae.bJ ls) [.slice p2 (ae.ord ls).length c2, .int .i64 (ae.bX ls)]), Row o9 p1 ls.length c1 ws, Row I3 p2 (ae.ord ls).length c2 (ae.ord ls)] h) : HC b ls w0 h := by
  subst e; exact ⟨⟨p1, c1, p2, c2⟩, trivial, hh⟩
end Go.Sl
namespace Go.Sl
def RC (b : Nat) (ls : List Int) : ab := fun w0 h => ∃ i : Cv, True ∧ bU w0 [ai b 231 (CA [] .i64 (ae.bJ ls) [.slice i.p1 (ae.ord ls).length i.c1, .slice i.p2 ls.length i.c2]), Row I3 i.p1 (ae.ord ls).length i.c1 (ae.ord ls), Row I3 i.p2 ls.length i.c2 ls] h
end Go.Sl
namespace Go.Sl
abbrev U5 : Ec Int := aD 5 .u8
structure Lv where
  p1 : Option Addr
  c1 : Nat
  p2 : Option Addr
  c2 : Nat
def LW (b : Nat) (B : List Int) (at_ : Nat) (out : List Int) (free : Int) : ab := fun w0 h => ∃ i : Lv, True ∧ bU w0 [ai b 236 [.slice i.p1 B.length i.c1, .slice i.p2 out.length i.c2, .int .i64 (at_ : Int), .int .i64 free], Row U5 i.p1 B.length i.c1 B, Row U5 i.p2 out.length i.c2 out] h
theorem nZ {b at_ : Nat} {p1 p2 : Option Addr} {c1 c2 : Nat} {B out : List Int} {free : Int} {w0 : World} {h : Hp}
    (hh : bU w0 [ai b 236 [.slice p1 B.length c1, .slice p2 out.length c2, .int .i64 (at_ : Int), .int .i64 free], Row U5 p1 B.length c1 B, Row U5 p2 out.length c2 out] h) : LW b B at_ out free w0 h := ⟨⟨p1, c1, p2, c2⟩, trivial, hh⟩
def WB (b : Nat) (bs : List Int) : ab := fun w0 h => ∃ i : List Int × Nat, (af.Pk bs i.1 i.2 ∧ i.2 < 8) ∧ bU w0 [LW b [] 0 i.1 (i.2 : Int)] h
end Go.Sl
namespace Go.Sl
structure Mi where
  po : Option Addr
  co : Nat
def MS (b bl : Nat) (sz mo : Int) (li di : Value) (s : ad.St) : ab := fun w0 h => ∃ i : Mi, True ∧ bU w0 [ai b 223 [.pointer (some ⟨bl, 0, none⟩), .int .i64 sz, .int .i64 mo, .slice i.po s.out.length i.co, .bool s.ended, .int .i64 0, .int .i64 s.kind, .int .i64 (s.left : Int), .bool s.last, li, di, .int .i64 (s.ax : Int), .int .i64 (s.bA : Int)], Row U5 i.po s.out.length i.co s.out] h
theorem cT {b bl : Nat} {sz mo : Int} {li di : Value} {s : ad.St} {po : Option Addr} {co n : Nat} {w0 : World} {h : Hp} (hn : n = s.out.length)
    (hh : bU w0 [ai b 223 [.pointer (some ⟨bl, 0, none⟩), .int .i64 sz, .int .i64 mo, .slice po n co, .bool s.ended, .int .i64 0, .int .i64 s.kind, .int .i64 (s.left : Int), .bool s.last, li, di, .int .i64 (s.ax : Int), .int .i64 (s.bA : Int)], Row U5 po n co s.out] h) : MS b bl sz mo li di s w0 h := by
  subst hn; exact ⟨⟨po, co⟩, trivial, hh⟩
theorem qX {b bl : Nat} {sz mo : Int} {li di : Value} {s : ad.St} {w0 : World} {h : Hp} (hh : MS b bl sz mo li di s w0 h) : ∃ i : Mi, True ∧ bU w0 [ai b 223 [.pointer (some ⟨bl, 0, none⟩), .int .i64 sz, .int .i64 mo, .slice i.po s.out.length i.co, .bool s.ended, .int .i64 0, .int .i64 s.kind, .int .i64 (s.left : Int), .bool s.last, li, di, .int .i64 (s.ax : Int), .int .i64 (s.bA : Int)], Row U5 i.po s.out.length i.co s.out] h := hh
structure Vx where
  v3 : Value
  v4 : Value
  v5 : Value
  v6 : Value
  v7 : Value
  v8 : Value
  v9 : Value
  v10 : Value
  v11 : Value
  v12 : Value
def MX (b bl : Nat) (sz mo : Int) : ab := fun w0 h => ∃ i : Vx, True ∧ bU w0 [ai b 223 [.pointer (some ⟨bl, 0, none⟩), .int .i64 sz, .int .i64 mo, i.v3, i.v4, i.v5, i.v6, i.v7, i.v8, i.v9, i.v10, i.v11, i.v12]] h
theorem bO {b bl : Nat} {sz mo : Int} {v3 v4 v5 v6 v7 v8 v9 v10 v11 v12 : Value} {w0 : World} {h : Hp}
    (hh : bU w0 [ai b 223 [.pointer (some ⟨bl, 0, none⟩), .int .i64 sz, .int .i64 mo, v3, v4, v5, v6, v7, v8, v9, v10, v11, v12]] h) : MX b bl sz mo w0 h := ⟨⟨v3, v4, v5, v6, v7, v8, v9, v10, v11, v12⟩, trivial, hh⟩
def PE (e : Int) (ch : List PanicEntry) : Prop := (ch = jC 194 (.agg #[]) ∧ e = 2) ∨ (ch = jC 237 (.agg #[]) ∧ e = 4) ∨ (ch = jC 27 (.int .i64 e) ∧ e ≠ 0)
theorem PE.no {e : Int} (h : e ≠ 0) : PE e (jC 27 (.int .i64 e)) := .inr (.inr ⟨rfl, h⟩)
theorem PE.end_ : PE 2 (jC 194 (.agg #[])) := .inl ⟨rfl, rfl⟩
theorem PE.none_ : PE 4 (jC 237 (.agg #[])) := .inr (.inl ⟨rfl, rfl⟩)
def gB {α : Type} (E : Except Int α) (R : α → Value → List ab → Prop) (Gx : List ab) : Ending → List ab → Prop := tW (fun v G => ∃ x, E = .ok x ∧ R x v G) (fun ch G => ∃ e, E = .error e ∧ PE e ch ∧ G = Gx)
section
variable {P : Program} {f : FuncId} {args : List Value} {Pre Gx : List ab} {α : Type} {E : Except Int α} {R : α → Value → List ab → Prop}
theorem aC.ok {x : α} (h : aC P f args Pre (gB E R Gx)) (hE : E = .ok x) : aC P f args Pre (aG (R x)) := h.mono fun e G h => by
  rcases h with ⟨v, rfl, x', h1, h2⟩ | ⟨ch, rfl, e', h1, _⟩
  · rw [hE] at h1; cases h1; exact ⟨v, rfl, h2⟩
  · rw [hE] at h1; cases h1
theorem aC.err {e : Int} (h : aC P f args Pre (gB E R Gx)) (hE : E = .error e) : aC P f args Pre (rE fun ch G => PE e ch ∧ G = Gx) := h.mono fun e' G h => by
  rcases h with ⟨v, rfl, x', h1, h2⟩ | ⟨ch, rfl, e', h1, h2⟩
  · rw [hE] at h1; cases h1
  · rw [hE] at h1; cases h1; exact ⟨ch, rfl, h2⟩
variable {C : Ctx} {Q : QT} {En : Env} {L F G : List ab} {rs : Array ResultVar} {v : Value} {ch : List PanicEntry}
theorem jS {x : α} (hE : E = .ok x) (hr : ks C rs En L v) (hR : R x v G) (hs : Sub L (G ++ F)) : oi C rs F (gB E R Gx) .ret En L := ⟨v, G, hr, .inl ⟨v, rfl, x, hE, hR⟩, hs⟩
theorem gx {x : α} (hE : E = .ok x) (hr : ks C rs En L v) (hR : R x v G) (hs : Sub L (G ++ F)) : oi C rs F (gB E R Gx) .normal En L := ⟨v, G, hr, .inl ⟨v, rfl, x, hE, hR⟩, hs⟩
theorem dk {e : Int} (hE : E = .error e) (hp : PE e ch) (hs : Sub L (Gx ++ F)) : oi C rs F (gB E R Gx) (.panic ch) En L := ⟨Gx, .inr ⟨ch, rfl, e, hE, hp, rfl⟩, hs⟩
theorem kt {e : Int} (hE : E = .error e) (hp : PE e ch) (hs : Sub L (Gx ++ F)) : ∃ G, gB E R Gx (.panicked ch) G ∧ Sub L (G ++ F) := ⟨Gx, .inr ⟨ch, rfl, e, hE, hp, rfl⟩, hs⟩
end
theorem vx {M F : List ab} : Drop (M ++ F) F := by
  induction M with
  | nil => exact .refl
  | cons a M ih => exact .skip ih
theorem xu {a0 : ab} {M F : List ab} : Drop (a0 :: (M ++ F)) F := .skip vx
end Go.Sl
namespace Go.Proofs.YtmaiakpjgomnpaaGreat
open Go.Sl
theorem V.a194 : gf Tryz.prog 194 = some 0 := by kernel_rfl
theorem V.a229 : gf Tryz.prog 229 = some 16 := by kernel_rfl
theorem V.XM : gf Tryz.prog 237 = some 0 := by kernel_rfl
theorem V.RN : gf Tryz.prog 246 = some 2 := by kernel_rfl
theorem V.Yc : gf Tryz.prog 279 = some 2 := by kernel_rfl
theorem V.qV : gq Tryz.prog 229 = some (16, 3, 1) := by kernel_rfl
theorem V.BW : gq Tryz.prog 246 = some (2, 3, 1) := by kernel_rfl
theorem V.Oj : aB Tryz.prog 103 = true := by kernel_rfl
theorem V.Nd : aB Tryz.prog 118 = true := by kernel_rfl
theorem V.Xg : aB Tryz.prog 119 = true := by kernel_rfl
theorem V.NP : aB Tryz.prog 128 = true := by kernel_rfl
theorem V.W3 : aB Tryz.prog 135 = true := by kernel_rfl
theorem V.M0 : aB Tryz.prog 145 = true := by kernel_rfl
theorem V.uU : aB Tryz.prog 146 = true := by kernel_rfl
theorem V.W4 : aB Tryz.prog 147 = true := by kernel_rfl
theorem V.R7 : aB Tryz.prog 148 = true := by kernel_rfl
theorem V.Sa : aB Tryz.prog 149 = true := by kernel_rfl
theorem V.R6 : aB Tryz.prog 150 = true := by kernel_rfl
theorem V.XA : aB Tryz.prog 160 = true := by kernel_rfl
theorem V.Yd : aB Tryz.prog 166 = true := by kernel_rfl
theorem V.Mo : aB Tryz.prog 167 = true := by kernel_rfl
theorem V.R4 : aB Tryz.prog 168 = true := by kernel_rfl
theorem V.Rx : aB Tryz.prog 169 = true := by kernel_rfl
theorem V.W2 : aB Tryz.prog 170 = true := by kernel_rfl
theorem V.Ng : aB Tryz.prog 178 = true := by kernel_rfl
theorem V.uv : aB Tryz.prog 179 = true := by kernel_rfl
theorem V.Rw : aB Tryz.prog 180 = true := by kernel_rfl
theorem V.Mu : aB Tryz.prog 181 = true := by kernel_rfl
theorem V.Sk : aB Tryz.prog 182 = true := by kernel_rfl
theorem V.eh : aB Tryz.prog 183 = true := by kernel_rfl
theorem V.Rs : aB Tryz.prog 195 = true := by kernel_rfl
theorem V.kG : aB Tryz.prog 197 = true := by kernel_rfl
theorem V.XV : aB Tryz.prog 198 = true := by kernel_rfl
theorem V.Xh : aB Tryz.prog 199 = true := by kernel_rfl
theorem V.MW : aB Tryz.prog 200 = true := by kernel_rfl
theorem V.pq : aB Tryz.prog 201 = true := by kernel_rfl
theorem V.MH : aB Tryz.prog 202 = true := by kernel_rfl
theorem V.N7 : aB Tryz.prog 203 = true := by kernel_rfl
theorem V.Xj : aB Tryz.prog 204 = true := by kernel_rfl
theorem V.X6 : aB Tryz.prog 215 = true := by kernel_rfl
theorem V.XO : aB Tryz.prog 216 = true := by kernel_rfl
theorem V.Xn : aB Tryz.prog 217 = true := by kernel_rfl
theorem V.Xa : aB Tryz.prog 218 = true := by kernel_rfl
theorem V.Cm : aB Tryz.prog 220 = true := by kernel_rfl
theorem V.mY : aB Tryz.prog 221 = true := by kernel_rfl
theorem V.W5 : aB Tryz.prog 222 = true := by kernel_rfl
theorem V.P6 : aB Tryz.prog 223 = true := by kernel_rfl
theorem V.Xe : aB Tryz.prog 229 = true := by kernel_rfl
theorem V.Ry : aB Tryz.prog 230 = true := by kernel_rfl
theorem V.N3 : aB Tryz.prog 245 = true := by kernel_rfl
theorem V.Cd : aB Tryz.prog 246 = true := by kernel_rfl
theorem V.X1 : aB Tryz.prog 253 = true := by kernel_rfl
theorem V.Ge : aB Tryz.prog 256 = true := by kernel_rfl
theorem V.Zw : aB Tryz.prog 63 = true := by kernel_rfl
theorem V.zw : aB Tryz.prog 91 = true := by kernel_rfl
theorem V.RS : aB Tryz.prog 92 = true := by kernel_rfl
theorem V.BL : lM Tryz.prog 194 = true := by kernel_rfl
theorem V.GW : lM Tryz.prog 237 = true := by kernel_rfl
theorem V.DB : lM Tryz.prog 27 = true := by kernel_rfl
theorem V.DY : a7 Tryz.prog 156 0 = some 0 := by kernel_rfl
theorem V.xc : a7 Tryz.prog 156 2 = some 2 := by kernel_rfl
theorem V.gy : a7 Tryz.prog 223 0 = some 0 := by kernel_rfl
theorem V.Nc : a7 Tryz.prog 223 1 = some 1 := by kernel_rfl
theorem V.uO : a7 Tryz.prog 223 10 = some 10 := by kernel_rfl
theorem V.Yn : a7 Tryz.prog 223 11 = some 11 := by kernel_rfl
theorem V.qA : a7 Tryz.prog 223 12 = some 12 := by kernel_rfl
theorem V.Ei : a7 Tryz.prog 223 2 = some 2 := by kernel_rfl
theorem V.jq : a7 Tryz.prog 223 3 = some 3 := by kernel_rfl
theorem V.xj : a7 Tryz.prog 223 4 = some 4 := by kernel_rfl
theorem V.Ri : a7 Tryz.prog 223 5 = some 5 := by kernel_rfl
theorem V.YA : a7 Tryz.prog 223 6 = some 6 := by kernel_rfl
theorem V.ZC : a7 Tryz.prog 223 7 = some 7 := by kernel_rfl
theorem V.YP : a7 Tryz.prog 223 8 = some 8 := by kernel_rfl
theorem V.wG : a7 Tryz.prog 223 9 = some 9 := by kernel_rfl
theorem V.yu : a7 Tryz.prog 236 0 = some 0 := by kernel_rfl
theorem V.Yt : a7 Tryz.prog 275 0 = some 0 := by kernel_rfl
theorem V.xG : a7 Tryz.prog 275 1 = some 1 := by kernel_rfl
theorem V.On : a7 Tryz.prog 275 2 = some 17 := by kernel_rfl
theorem V.YQ : a7 Tryz.prog 275 3 = some 18 := by kernel_rfl
theorem V.mixed : Tryz.prog.follows .mixedOrders = true := by kernel_rfl
theorem V.Ux : ew Tryz.prog 156 = some [(0, 1), (1, 1), (2, 1), (3, 1)] := by kernel_rfl
theorem V.TU : ew Tryz.prog 194 = some [] := by kernel_rfl
theorem V.UC : ew Tryz.prog 223 = some [(0, 1), (1, 1), (2, 1), (3, 1), (4, 1), (5, 1), (6, 1), (7, 1), (8, 1), (9, 1), (10, 1), (11, 1), (12, 1)] := by kernel_rfl
theorem V.S3 : ew Tryz.prog 236 = some [(0, 4)] := by kernel_rfl
theorem V.Up : ew Tryz.prog 237 = some [] := by kernel_rfl
theorem V.Tw : ew Tryz.prog 275 = some [(0, 1), (1, 16), (17, 1), (18, 1)] := by kernel_rfl
theorem V.Tm : ew Tryz.prog 279 = some [(0, 1), (1, 1)] := by kernel_rfl
theorem V.r9 : bP Tryz.prog 204 = true := by kernel_rfl
theorem V.fV : bP Tryz.prog 219 = true := by kernel_rfl
theorem V.jU : bP Tryz.prog 22 = true := by kernel_rfl
theorem V.y8 : bP Tryz.prog 221 = true := by kernel_rfl
theorem V.C9 : bP Tryz.prog 27 = true := by kernel_rfl
theorem V.Xc : bP Tryz.prog 273 = true := by kernel_rfl
theorem V.s3 : bP Tryz.prog 3 = true := by kernel_rfl
theorem V.s4 : bP Tryz.prog 4 = true := by kernel_rfl
theorem V.ml : bP Tryz.prog 47 = true := by kernel_rfl
theorem V.s5 : bP Tryz.prog 5 = true := by kernel_rfl
theorem V.bK : sliceB Tryz.prog 22 = some (5, 1, 1) := by kernel_rfl
theorem V.IG : sliceB Tryz.prog 247 = some (246, 2, 16) := by kernel_rfl
theorem V.JJ : sliceB Tryz.prog 273 = some (279, 2, 16) := by kernel_rfl
theorem V.cA : sliceB Tryz.prog 47 = some (3, 1, 8) := by kernel_rfl
theorem V.u3 : jt Tryz.prog 3 = true := by kernel_rfl
theorem V.u5 : jt Tryz.prog 5 = true := by kernel_rfl
theorem V.Zd : jt Tryz.prog 52 = true := by kernel_rfl
theorem V.Bq : jt Tryz.prog 76 = true := by kernel_rfl
theorem V.z156 : cm Tryz.prog 156 = some ([.slice none 0 0, .slice none 0 0, .int .i64 0, .int .i64 0]) := by kernel_rfl
theorem V.z194 : cm Tryz.prog 194 = some ([]) := by kernel_rfl
theorem V.Xk : cm Tryz.prog 223 = some ([.pointer none, .int .i64 0, .int .i64 0, .slice none 0 0, .bool false, .int .i64 0, .int .i64 0, .int .i64 0, .bool false, .pointer none, .pointer none, .int .i64 0, .int .i64 0]) := by kernel_rfl
theorem V.z236 : cm Tryz.prog 236 = some ([.slice none 0 0, .slice none 0 0, .int .i64 0, .int .i64 0]) := by kernel_rfl
theorem V.RK : cm Tryz.prog 237 = some ([]) := by kernel_rfl
theorem V.HB : cm Tryz.prog 246 = some ([.int .i64 0, .int .i64 0]) := by kernel_rfl
theorem V.Vp : cm Tryz.prog 27 = some ([.int .i64 0]) := by kernel_rfl
theorem V.XE : cm Tryz.prog 275 = some ([.slice none 0 0, .int .i64 0, .int .i64 0, .int .i64 0, .int .i64 0, .int .i64 0, .int .i64 0, .int .i64 0, .int .i64 0, .int .i64 0, .int .i64 0, .int .i64 0, .int .i64 0, .int .i64 0, .int .i64 0, .int .i64 0, .int .i64 0, .slice none 0 0, .int .i64 0]) := by kernel_rfl
theorem V.Ro : cm Tryz.prog 279 = some ([.int .i64 0, .int .i64 0]) := by kernel_rfl
theorem V.z3 : cm Tryz.prog 3 = some ([.int .i64 0]) := by kernel_rfl
theorem V.z5 : cm Tryz.prog 5 = some ([.int .u8 0]) := by kernel_rfl
end Go.Proofs.YtmaiakpjgomnpaaGreat
namespace Go.Proofs.YtmaiakpjgomnpaaGreat
open Go.Sl
theorem TT : jK Tryz.prog ⟨[22, 24, 47, 59, 64, 73, 84, 140, 247], [(26, 0, 0), (26, 1, 1), (26, 2, 2), (35, 0, 0), (35, 1, 1), (35, 2, 2), (35, 3, 3), (35, 4, 4), (38, 0, 0), (38, 1, 1), (38, 2, 2), (38, 3, 3), (38, 4, 4), (50, 0, 0), (50, 1, 1), (57, 0, 0), (57, 1, 1), (67, 0, 0), (67, 1, 1), (67, 2, 2), (67, 3, 3), (67, 4, 4), (67, 5, 5), (88, 0, 0), (88, 1, 1), (90, 0, 0), (90, 1, 5), (90, 2, 6), (90, 3, 7), (90, 4, 8), (137, 0, 0), (137, 1, 1), (137, 2, 2), (137, 3, 3), (145, 0, 0), (145, 1, 1), (145, 2, 2), (145, 3, 3), (145, 4, 4), (145, 5, 5), (151, 0, 0), (151, 1, 1), (151, 2, 2), (151, 3, 3), (156, 0, 0), (156, 2, 2), (158, 0, 0), (175, 0, 0), (223, 0, 0), (223, 3, 3), (223, 4, 4), (223, 5, 5), (223, 6, 6), (223, 7, 7), (223, 8, 8), (223, 9, 9), (223, 10, 10), (223, 11, 11), (223, 12, 12), (231, 0, 0), (231, 1, 16), (236, 0, 0), (275, 0, 0), (275, 1, 1), (275, 2, 17), (275, 3, 18)]⟩ = true := by kernel_rfl
end Go.Proofs.YtmaiakpjgomnpaaGreat
