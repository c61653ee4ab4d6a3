/- Walks of functions that the law reaches, and what they lean on; no conditions. -/
import Derived.Test.YtmaiakpjgomnpaaGreatM3
import Derived.Test.YtmaiakpjgomnpaaGreatM1
import Derived.Test.YtmaiakpjgomnpaaGreatM2
import Derived.Test.YtmaiakpjgomnpaaGreatProg
import Derived.KernelRfl
set_option linter.unusedVariables false
set_option linter.unusedSimpArgs false
set_option maxRecDepth 100000
namespace Go.aa
open Go.aj Go.Sl
theorem JL (a b : Int) : (if a - b < b - a then b - a else a - b) = off a b := by unfold off; split <;> omega
theorem PL (a b c : Int) : (off (a + b - c) a ≤ off (a + b - c) b ∧ off (a + b - c) a ≤ off (a + b - c) c ∧ rn a b c = a) ∨ (off (a + b - c) a ≤ off (a + b - c) b ∧ ¬ off (a + b - c) a ≤ off (a + b - c) c ∧ off (a + b - c) b ≤ off (a + b - c) c ∧ rn a b c = b) ∨ (off (a + b - c) a ≤ off (a + b - c) b ∧ ¬ off (a + b - c) a ≤ off (a + b - c) c ∧ ¬ off (a + b - c) b ≤ off (a + b - c) c ∧ rn a b c = c) ∨
    (¬ off (a + b - c) a ≤ off (a + b - c) b ∧ off (a + b - c) b ≤ off (a + b - c) c ∧ rn a b c = b) ∨ (¬ off (a + b - c) a ≤ off (a + b - c) b ∧ ¬ off (a + b - c) b ≤ off (a + b - c) c ∧ rn a b c = c) := by
  unfold rn
  by_cases h1 : off (a + b - c) a ≤ off (a + b - c) b
  · by_cases h2 : off (a + b - c) a ≤ off (a + b - c) c
    · exact .inl ⟨h1, h2, if_pos ⟨h1, h2⟩⟩
    · rw [if_neg (fun h => h2 h.2)]
      by_cases h3 : off (a + b - c) b ≤ off (a + b - c) c
      · exact .inr (.inl ⟨h1, h2, h3, if_pos h3⟩)
      · exact .inr (.inr (.inl ⟨h1, h2, h3, if_neg h3⟩))
  · rw [if_neg (fun h => h1 h.1)]
    by_cases h3 : off (a + b - c) b ≤ off (a + b - c) c
    · exact .inr (.inr (.inr (.inl ⟨h1, h3, if_pos h3⟩)))
    · exact .inr (.inr (.inr (.inr ⟨h1, h3, if_neg h3⟩)))
def rh (l : List Int) (j : Int) : Int := if j < 0 then 0 else l.getD j.toNat 0
theorem Ox (l : List Int) (j : Int) : (j < 0 ∧ rh l j = 0) ∨ (¬ j < 0 ∧ (l.length : Int) ≤ j ∧ rh l j = 0) ∨ (¬ j < 0 ∧ ¬ (l.length : Int) ≤ j ∧ rh l j = l.getD j.toNat 0) := by
  unfold rh
  by_cases h1 : j < 0
  · exact .inl ⟨h1, if_pos h1⟩
  rw [if_neg h1]
  by_cases h2 : (l.length : Int) ≤ j
  · refine .inr (.inl ⟨h1, h2, ?_⟩)
    rw [List.getD_eq_getElem?_getD, List.getElem?_eq_none (by omega)]; rfl
  · exact .inr (.inr ⟨h1, h2, rfl⟩)
theorem Bo (l : List Int) (i back : Nat) : rh l ((i : Int) - (back : Int)) = gz l i back := by
  unfold rh gz
  by_cases h : i < back
  · rw [if_pos (by omega), if_pos h]
  · rw [if_neg (by omega), if_neg h, show ((i : Int) - (back : Int)).toNat = i - back by omega]
theorem Gv (l : List Int) (i : Nat) : rh l (i : Int) = l.getD i 0 := by
  unfold rh; rw [if_neg (by omega), Int.toNat_natCast]
theorem OZ (kind a b c : Int) : (kind = 1 ∧ pe kind a b c = a) ∨ (kind ≠ 1 ∧ kind = 2 ∧ pe kind a b c = b) ∨ (kind ≠ 1 ∧ kind ≠ 2 ∧ kind = 3 ∧ pe kind a b c = (a + b) / 2) ∨ (kind ≠ 1 ∧ kind ≠ 2 ∧ kind ≠ 3 ∧ kind = 4 ∧ pe kind a b c = rn a b c) ∨ (kind ≠ 1 ∧ kind ≠ 2 ∧ kind ≠ 3 ∧ kind ≠ 4 ∧ pe kind a b c = 0) := by
  unfold pe
  by_cases h1 : kind = 1
  · exact .inl ⟨h1, if_pos h1⟩
  rw [if_neg h1]
  by_cases h2 : kind = 2
  · exact .inr (.inl ⟨h1, h2, if_pos h2⟩)
  rw [if_neg h2]
  by_cases h3 : kind = 3
  · exact .inr (.inr (.inl ⟨h1, h2, h3, if_pos h3⟩))
  rw [if_neg h3]
  by_cases h4 : kind = 4
  · exact .inr (.inr (.inr (.inl ⟨h1, h2, h3, h4, if_pos h4⟩)))
  · exact .inr (.inr (.inr (.inr ⟨h1, h2, h3, h4, if_neg h4⟩)))
def jD (kind : Int) (row above : List Int) (back i : Nat) : List Int := jq kind row above back i ++ List.replicate (row.length - i) 0
theorem EV {kind : Int} {row above : List Int} {back i : Nat} (h : i ≤ row.length) : (jD kind row above back i).length = row.length := by
  unfold jD; rw [List.length_append, mN, List.length_replicate]; omega
theorem IP (kind : Int) (row above : List Int) (back : Nat) : jD kind row above back 0 = List.replicate row.length 0 := by simp [jD, jq]
theorem DW (kind : Int) (row above : List Int) (back : Nat) : jD kind row above back row.length = gl kind row above back := by simp [jD, gl]
theorem Ea {kind : Int} {row above : List Int} {back i : Nat} : av (jD kind row above back i) := fun x hx => by
  rcases List.mem_append.1 hx with h | h
  · exact rE kind row above back i x h
  · rw [List.eq_of_mem_replicate h]; decide
theorem yC {a : List Int} {x v : Int} {b : List Int} {i : Nat} (ha : a.length = i) : (a ++ x :: b).set i v = a ++ v :: b := by
  subst ha; rw [List.set_append_right _ _ (Nat.le_refl _), Nat.sub_self]; rfl
theorem D8 {kind : Int} {row above : List Int} {back i : Nat} (h : i < row.length) : (jD kind row above back i).set i (kl kind row above back (jq kind row above back i) i) = jD kind row above back (i + 1) := by
  unfold jD
  rw [show row.length - i = (row.length - (i + 1)) + 1 by omega, List.replicate_succ, yC (mN ..), jq, List.append_assoc]
  rfl
theorem Hn {kind : Int} {row above : List Int} {back i : Nat} (hb : 0 < back) : gz (jD kind row above back i) i back = gz (jq kind row above back i) i back := LJ (mN ..) hb
def OC (kind : Int) (row above : List Int) (back i : Nat) : List Int := jq kind row above back i ++ row.drop i
theorem Hi {kind : Int} {row above : List Int} {back i : Nat} {x y : Int} (hx : x = row.getD i 0) (hy : y = pe kind (gz (jq kind row above back i) i back) (above.getD i 0) (gz above i back)) : (x + y) % 256 = kl kind row above back (jq kind row above back i) i := by rw [hx, hy]; rfl
end Go.aa
namespace Go.aa
open Go.aj Go.Sl
theorem tI (B : List Int) (a : Nat) {n : Nat} (hn : n ≤ 24) : 0 ≤ cU B a n ∧ cU B a n < 16777216 := by
  have h := mC B a n
  have h2 : (2 : Nat) ^ n ≤ 2 ^ 24 := Nat.pow_le_pow_right (by decide) hn
  have h3 : (2 : Int) ^ n = ((2 ^ n : Nat) : Int) := by simp
  rw [h3] at h
  omega
theorem MH {B : List Int} {a k : Nat} (hk : k ≤ 24) : IntKind.i64.wrap (cU B a k * 2 ^ (min (1 : Int).toNat IntKind.i64.bits)) = 2 * cU B a k := by
  have h := tI B a hk
  exact El h.1 (by omega)
theorem QB {B : List Int} {a k : Nat} (hk : k ≤ 24) : IntKind.i64.wrap ((BitVec.ofInt IntKind.i64.bits (2 * cU B a k) ||| BitVec.ofInt IntKind.i64.bits (gX B (a + k))).toNat : Int) = cU B a (k + 1) := by
  have h := tI B a hk
  rw [BC h.1 (by omega) (qT _ _)]
  rfl
def jv (d : Int) : Prop := d = 1 ∨ d = 2 ∨ d = 4 ∨ d = 8 ∨ d = 16
def up (d v : Int) : Int := v * (65535 / (2 ^ d.toNat - 1))
theorem mF {d : Int} (h : jv d) : (2 : Int) ≤ 2 ^ d.toNat ∧ (2 : Int) ^ d.toNat ≤ 65536 := by rcases h with rfl | rfl | rfl | rfl | rfl <;> decide
theorem jM {d : Int} (h : jv d) : 1 ≤ d ∧ d ≤ 16 := by rcases h with rfl | rfl | rfl | rfl | rfl <;> decide
theorem mD {d : Int} (h : jv d) : IntKind.i64.wrap (1 * 2 ^ (min d.toNat IntKind.i64.bits)) = 2 ^ d.toNat := by rcases h with rfl | rfl | rfl | rfl | rfl <;> decide
theorem iA {c d : Int} (h : deep c d) : jv d := by
  unfold deep at h
  unfold jv
  omega
theorem mh {c d : Int} (h : deep c d) : 1 ≤ parts c ∧ parts c ≤ 4 ∧ 1 ≤ parts c * d ∧ parts c * d ≤ 64 := by
  unfold deep at h
  rcases h with ⟨rfl, h⟩ | ⟨rfl, h⟩ | ⟨rfl | rfl | rfl, h⟩
  · rw [show parts 0 = 1 from rfl]; omega
  · rw [show parts 3 = 1 from rfl]; omega
  · rw [show parts 2 = 3 from rfl]; omega
  · rw [show parts 4 = 2 from rfl]; omega
  · rw [show parts 6 = 4 from rfl]; omega
theorem zP {d v : Int} (h : jv d) (h0 : 0 ≤ v) (h1 : v < 2 ^ d.toNat) : 0 ≤ up d v ∧ up d v ≤ 65535 := by
  unfold up
  rcases h with rfl | rfl | rfl | rfl | rfl
  · have : v < 2 := h1; simp; omega
  · have : v < 4 := h1; simp; omega
  · have : v < 16 := h1; simp; omega
  · have : v < 256 := h1; simp; omega
  · have : v < 65536 := h1; simp; omega
theorem up_mul {d v P : Int} (hP : P = 2 ^ d.toNat) (h : jv d) (h0 : 0 ≤ v) (h1 : v < P) : IntKind.i64.wrap (v * (65535 / (P - 1))) = up d v := by
  subst hP
  have := zP h h0 h1
  unfold up at this ⊢
  exact gR (by omega) (by omega)
theorem BV {n : Int} (h : 0 ≤ n ∧ n ≤ 65535) : IntKind.u16.wrap n = n := by
  have : IntKind.u16.wrap n = n % 65536 := rfl
  omega
theorem QV (x : Int) : up 8 x = x * 257 := by unfold up; rfl
theorem GX {d : Int} (h : jv d) : d = 1 ∨ (d ≠ 1 ∧ d = 2) ∨ (d ≠ 1 ∧ d ≠ 2 ∧ d = 4) ∨ (d ≠ 1 ∧ d ≠ 2 ∧ d ≠ 4 ∧ d = 8) ∨ (d ≠ 1 ∧ d ≠ 2 ∧ d ≠ 4 ∧ d ≠ 8 ∧ d = 16) := by
  unfold jv at h
  omega
theorem wk {w h x y : Int} (hx : 0 ≤ x ∧ x < w) (hy : 0 ≤ y ∧ y < h) : 0 ≤ y * w ∧ 0 ≤ y * w + x ∧ y * w + x + 1 ≤ w * h := by
  have h1 : 0 ≤ y * w := Int.mul_nonneg hy.1 (by omega)
  have h2 : (y + 1) * w ≤ h * w := Int.mul_le_mul_of_nonneg_right (by omega) (by omega)
  rw [Int.add_mul, Int.one_mul, Int.mul_comm h w] at h2
  omega
def RV (w : Int) (dv : List Int) (x y : Int) : List Int := (dv.drop (4 * (y * w + x)).toNat).take 4
theorem EJ {w : Int} {dv : List Int} {x y : Int} {c : List Int} (hc : c.length = 4) (h : (4 * (y * w + x)).toNat + 4 ≤ dv.length) : (lE w dv x y c).length = dv.length := by
  simp [lE, hc]
  omega
def jm (w1 h1 : Int) (n1 : Nat) (w2 h2 : Int) (n2 : Nat) (L1 L2 : List Int) : Prop := (bN w1 h1 = 0 ∧ (n1 : Int) = 4 * w1 * h1) ∧ (bN w2 h2 = 0 ∧ (n2 : Int) = 4 * w2 * h2) ∧ w1 = w2 ∧ h1 = h2 ∧ L1 = L2
theorem NI (w1 h1 : Int) (n1 : Nat) (w2 h2 : Int) (n2 : Nat) (L1 L2 : List Int) :
    (¬ (bN w1 h1 = 0 ∧ (n1 : Int) = 4 * w1 * h1) ∧ ¬ jm w1 h1 n1 w2 h2 n2 L1 L2) ∨
    ((bN w1 h1 = 0 ∧ (n1 : Int) = 4 * w1 * h1) ∧ ¬ (bN w2 h2 = 0 ∧ (n2 : Int) = 4 * w2 * h2) ∧ ¬ jm w1 h1 n1 w2 h2 n2 L1 L2) ∨
    ((bN w1 h1 = 0 ∧ (n1 : Int) = 4 * w1 * h1) ∧ (bN w2 h2 = 0 ∧ (n2 : Int) = 4 * w2 * h2) ∧ w1 ≠ w2 ∧ ¬ jm w1 h1 n1 w2 h2 n2 L1 L2) ∨
    ((bN w1 h1 = 0 ∧ (n1 : Int) = 4 * w1 * h1) ∧ (bN w2 h2 = 0 ∧ (n2 : Int) = 4 * w2 * h2) ∧ w1 = w2 ∧ h1 ≠ h2 ∧ ¬ jm w1 h1 n1 w2 h2 n2 L1 L2) ∨
    ((bN w1 h1 = 0 ∧ (n1 : Int) = 4 * w1 * h1) ∧ (bN w2 h2 = 0 ∧ (n2 : Int) = 4 * w2 * h2) ∧ w1 = w2 ∧ h1 = h2 ∧ n1 = n2) := by
  by_cases a : (bN w1 h1 = 0 ∧ (n1 : Int) = 4 * w1 * h1)
  · by_cases b : (bN w2 h2 = 0 ∧ (n2 : Int) = 4 * w2 * h2)
    · by_cases c : w1 = w2
      · by_cases d : h1 = h2
        · exact .inr (.inr (.inr (.inr ⟨a, b, c, d, by subst c; subst d; omega⟩)))
        · exact .inr (.inr (.inr (.inl ⟨a, b, c, d, fun h => d h.2.2.2.1⟩)))
      · exact .inr (.inr (.inl ⟨a, b, c, fun h => c h.2.2.1⟩))
    · exact .inr (.inl ⟨a, b, fun h => b h.2.1⟩)
  · exact .inl ⟨a, fun h => a h.1⟩
theorem F4 {L1 L2 : List Int} {i : Nat} (h : L1.getD i 0 ≠ L2.getD i 0) : L1 ≠ L2 := fun e => h (by rw [e])
theorem AB {L1 L2 : List Int} (hl : L1.length = L2.length) (h : ∀ j, j < L1.length → L1.getD j 0 = L2.getD j 0) : L1 = L2 := by
  refine List.ext_getElem hl fun j h1 h2 => ?_
  have := h j h1
  rwa [List.getD_eq_getElem?_getD, List.getD_eq_getElem?_getD, List.getElem?_eq_getElem h1, List.getElem?_eq_getElem h2] at this
end Go.aa
namespace Go.aa
open Go.aj Go.Sl
theorem gD (l : List Int) (n i : Nat) : (l.drop n).getD i 0 = l.getD (n + i) 0 := by simp [List.getD_eq_getElem?_getD, List.getElem?_drop]
theorem Lc {B : List Int} (hB : av B) (j : Nat) : cU B (8 * j) 16 * 65536 + cU B (8 * j + 16) 16 = aL.dU (B.drop j) := by
  rw [qJ (hB.get _) (hB.get _), show 8 * j + 16 = 8 * (j + 2) by omega, qJ (hB.get _) (hB.get _)]
  unfold aL.dU
  rw [gD, gD, gD, gD]
  simp only [Nat.add_zero]
  rw [show j + 2 + 1 = j + 3 from rfl]
  omega
theorem zN (B : List Int) (a : Nat) : 0 ≤ cU B a 16 ∧ cU B a 16 < 65536 := by have := mC B a 16; omega
def Bh (B : List Int) (a : Nat) : Nat → Int
  | 0 => 0
  | n + 1 => Bh B a n * 256 + B.getD (a + n) 0
def Ku (B : List Int) : Hd := if fO B = 0 then bj B else ⟨0, 0, 0, 0, false⟩
theorem vl {B : List Int} (h : fO B = 0) : Ku B = bj B := if_pos h
theorem oZ {B : List Int} {e : Int} (h : fO B = e) (he : e ≠ 0) : Ku B = ⟨0, 0, 0, 0, false⟩ := if_neg (by rw [h]; exact he)
theorem xP (B : List Int) : (B.length ≠ 13 ∧ fO B = 4) ∨
    (¬ B.length ≠ 13 ∧ ¬ deep (bj B).ax (bj B).dep ∧ fO B = 4) ∨
    (¬ B.length ≠ 13 ∧ deep (bj B).ax (bj B).dep ∧ 0 < B.getD 10 0 + B.getD 11 0 ∧ fO B = 4) ∨
    (¬ B.length ≠ 13 ∧ deep (bj B).ax (bj B).dep ∧ ¬ 0 < B.getD 10 0 + B.getD 11 0 ∧ 1 < B.getD 12 0 ∧ fO B = 4) ∨
    (¬ B.length ≠ 13 ∧ deep (bj B).ax (bj B).dep ∧ ¬ 0 < B.getD 10 0 + B.getD 11 0 ∧ ¬ 1 < B.getD 12 0 ∧ (bj B).w = 0 ∧ fO B = 4) ∨
    (¬ B.length ≠ 13 ∧ deep (bj B).ax (bj B).dep ∧ ¬ 0 < B.getD 10 0 + B.getD 11 0 ∧ ¬ 1 < B.getD 12 0 ∧ ¬ (bj B).w = 0 ∧ (bj B).h = 0 ∧ fO B = 4) ∨
    (¬ B.length ≠ 13 ∧ deep (bj B).ax (bj B).dep ∧ ¬ 0 < B.getD 10 0 + B.getD 11 0 ∧ ¬ 1 < B.getD 12 0 ∧ ¬ (bj B).w = 0 ∧ ¬ (bj B).h = 0 ∧ bN (bj B).w (bj B).h ≠ 0 ∧ fO B = 6) ∨
    (¬ B.length ≠ 13 ∧ deep (bj B).ax (bj B).dep ∧ ¬ 0 < B.getD 10 0 + B.getD 11 0 ∧ ¬ 1 < B.getD 12 0 ∧ ¬ (bj B).w = 0 ∧ ¬ (bj B).h = 0 ∧ ¬ bN (bj B).w (bj B).h ≠ 0 ∧ fO B = 0) := by
  unfold fO
  by_cases h0 : B.length ≠ 13
  · exact .inl ⟨h0, if_pos h0⟩
  refine .inr ?_
  rw [if_neg h0]
  by_cases h1 : deep (bj B).ax (bj B).dep
  case neg => exact .inl ⟨h0, h1, if_pos (.inl h1)⟩
  refine .inr ?_
  by_cases h2 : 0 < B.getD 10 0 + B.getD 11 0
  · exact .inl ⟨h0, h1, h2, if_pos (.inr (.inl h2))⟩
  refine .inr ?_
  by_cases h3 : 1 < B.getD 12 0
  · exact .inl ⟨h0, h1, h2, h3, if_pos (.inr (.inr (.inl h3)))⟩
  refine .inr ?_
  by_cases h4 : (bj B).w = 0
  · exact .inl ⟨h0, h1, h2, h3, h4, if_pos (.inr (.inr (.inr (.inl h4))))⟩
  refine .inr ?_
  by_cases h5 : (bj B).h = 0
  · exact .inl ⟨h0, h1, h2, h3, h4, h5, if_pos (.inr (.inr (.inr (.inr h5))))⟩
  refine .inr ?_
  rw [if_neg (fun h => by
    rcases h with h | h | h | h | h
    · exact h h1
    · exact h2 h
    · exact h3 h
    · exact h4 h
    · exact h5 h)]
  by_cases h6 : bN (bj B).w (bj B).h = 0
  · exact .inr ⟨h0, h1, h2, h3, h4, h5, fun h => h h6, if_pos h6⟩
  · exact .inl ⟨h0, h1, h2, h3, h4, h5, h6, if_neg h6⟩
def N2 (c d : Int) : Prop := if c = 0 then d = 1 ∨ d = 2 ∨ d = 4 ∨ d = 8 ∨ d = 16 else if c = 2 ∨ c = 4 ∨ c = 6 then d = 8 ∨ d = 16 else if c = 3 then d = 1 ∨ d = 2 ∨ d = 4 ∨ d = 8 else d = 8
instance (c d : Int) : Decidable (N2 c d) := by unfold N2; infer_instance
theorem HX {L : List Int} {c : Ch} (hL : av L) (h : first L = .ok c) : av c.k ∧ c.k.length < 500000000 := by
  unfold first at h
  split at h
  · cases h
  · split at h
    · cases h
    · split at h
      · cases h
      · split at h
        · cases h
          exact ⟨fun x hx => hL x (List.mem_of_mem_drop (List.mem_of_mem_take hx)), by simp only [List.length_take]; omega⟩
        · cases h
theorem Cr : ∀ {f : Nat} {L : List Int} {a l : List Ch}, av L → (∀ c ∈ a, av c.k ∧ c.k.length < 500000000) → gn f L a = .ok l → ∀ c ∈ l, av c.k ∧ c.k.length < 500000000
  | 0, L, a, l, _, _, h => by cases h
  | f + 1, L, a, l, hL, ha, h => by
    rw [gn] at h
    split at h
    · cases h
    · rename_i c hc
      have hd := HX hL hc
      have ha2 : ∀ y ∈ a ++ [c], av y.k ∧ y.k.length < 500000000 := fun y hy => by
        rcases List.mem_append.1 hy with hy | hy
        · exact ha y hy
        · rw [List.mem_singleton.1 hy]; exact hd
      split at h
      · split at h
        · cases h; exact ha2
        · cases h
      · exact Cr (fun x hx => hL x (List.mem_of_mem_drop hx)) ha2 h
theorem MT {B : List Int} {l : List Ch} (hB : av B) (h : cut B = .ok l) : ∀ c ∈ l, av c.k ∧ c.k.length < 500000000 := by
  unfold cut at h
  split at h
  · cases h
  · split at h
    · cases h
    · split at h
      · exact Cr (fun x hx => hB x (List.mem_of_mem_drop hx)) (fun c hc => by cases hc) h
      · cases h
def jU (l : List Ch) : Nat := (l.map (·.d.length)).sum
theorem DJ (a : List Ch) (c : Ch) : jU (a ++ [c]) = jU a + c.d.length := by simp [jU]
theorem C8 {L : List Int} {c : Ch} (h : first L = .ok c) : 12 + c.d.length ≤ L.length := by
  unfold first at h
  split at h
  · cases h
  · rename_i h12
    split at h
    · cases h
    · split at h
      · cases h
      · rename_i h3
        split at h
        · cases h
          simp only [List.length_take, List.length_drop]
          omega
        · cases h
theorem w6 : ∀ {f : Nat} {L : List Int} {a l : List Ch}, gn f L a = .ok l → jU l ≤ jU a + L.length
  | 0, L, a, l, h => by cases h
  | f + 1, L, a, l, h => by
    rw [gn] at h
    split at h
    · cases h
    · rename_i c hc
      have hd := C8 hc
      have hs := DJ a c
      split at h
      · split at h
        · cases h; omega
        · cases h
      · have := w6 h
        rw [List.length_drop] at this
        omega
theorem uz {B : List Int} {l : List Ch} (h : cut B = .ok l) : jU l ≤ B.length := by
  unfold cut at h
  split at h
  · cases h
  · split at h
    · cases h
    · split at h
      · have := w6 h
        rw [List.length_drop] at this
        have e0 : jU [] = 0 := rfl
        omega
      · cases h
theorem om : ∀ l : List Ch, (dh l).length ≤ jU l
  | [] => by simp [dh, jU]
  | c :: l => by
    have ih := om l
    unfold dh at ih ⊢
    rw [List.filter_cons]
    have e : jU (c :: l) = c.d.length + jU l := by simp [jU]
    split
    · simp only [List.flatMap_cons, List.length_append]; omega
    · omega
theorem mG {l : List Ch} {k : List Int} : (cE l k).length ≤ jU l := by
  unfold cE
  split
  · rename_i c hc
    have hm := List.mem_of_find?_eq_some hc
    unfold jU
    clear hc
    induction l with
    | nil => cases hm
    | cons a l ih =>
      rw [List.map_cons, List.sum_cons]
      rcases List.mem_cons.1 hm with rfl | hm
      · omega
      · have := ih hm; omega
  · simp
end Go.aa
namespace Go.aa
open Go.aj Go.Sl
theorem Qi {B : List Int} (h0 : ¬ B.length ≠ 13) :
    (¬ B.length ≠ 13 ∧ ¬ deep (bj B).ax (bj B).dep ∧ fO B = 4) ∨
    (¬ B.length ≠ 13 ∧ deep (bj B).ax (bj B).dep ∧ 0 < B.getD 10 0 + B.getD 11 0 ∧ fO B = 4) ∨
    (¬ B.length ≠ 13 ∧ deep (bj B).ax (bj B).dep ∧ ¬ 0 < B.getD 10 0 + B.getD 11 0 ∧ 1 < B.getD 12 0 ∧ fO B = 4) ∨
    (¬ B.length ≠ 13 ∧ deep (bj B).ax (bj B).dep ∧ ¬ 0 < B.getD 10 0 + B.getD 11 0 ∧ ¬ 1 < B.getD 12 0 ∧ (bj B).w = 0 ∧ fO B = 4) ∨
    (¬ B.length ≠ 13 ∧ deep (bj B).ax (bj B).dep ∧ ¬ 0 < B.getD 10 0 + B.getD 11 0 ∧ ¬ 1 < B.getD 12 0 ∧ ¬ (bj B).w = 0 ∧ (bj B).h = 0 ∧ fO B = 4) ∨
    (¬ B.length ≠ 13 ∧ deep (bj B).ax (bj B).dep ∧ ¬ 0 < B.getD 10 0 + B.getD 11 0 ∧ ¬ 1 < B.getD 12 0 ∧ ¬ (bj B).w = 0 ∧ ¬ (bj B).h = 0 ∧ bN (bj B).w (bj B).h ≠ 0 ∧ fO B = 6) ∨
    (¬ B.length ≠ 13 ∧ deep (bj B).ax (bj B).dep ∧ ¬ 0 < B.getD 10 0 + B.getD 11 0 ∧ ¬ 1 < B.getD 12 0 ∧ ¬ (bj B).w = 0 ∧ ¬ (bj B).h = 0 ∧ ¬ bN (bj B).w (bj B).h ≠ 0 ∧ fO B = 0) := (xP B).resolve_left (fun h => h0 h.1)
theorem zL {x : Int} (h : 0 ≤ x ∧ x < 256) : IntKind.i64.wrap x = x := gR (by omega) (by omega)
theorem Bq {B : List Int} (h : B.length ≠ 13) : fO B = 4 := by unfold fO; rw [if_pos h]
instance (w1 h1 : Int) (n1 : Nat) (w2 h2 : Int) (n2 : Nat) (L1 L2 : List Int) : Decidable (jm w1 h1 n1 w2 h2 n2 L1 L2) := by unfold jm; infer_instance
end Go.aa
namespace Go.aa
open Go.aj Go.Sl
def lX (l : List Ch) (k : List Int) : List Int := l.foldl (fun d c => if c.k = k then c.d else d) []
theorem ns {L : List Ch} {i : Nat} {x : Ch} (h : L[i]? = some x) : L.take (i + 1) = L.take i ++ [x] := by
  rw [List.take_add_one, h]; rfl
theorem kY {L : List Ch} {i : Nat} {x : Ch} {k : List Int} (h : L[i]? = some x) : lX (L.take (i + 1)) k = if x.k = k then x.d else lX (L.take i) k := by
  rw [ns h]; simp [lX]
theorem l8 {L : List Ch} {i : Nat} {x : Ch} {k : List Int} (h : L[i]? = some x) : fD (L.take (i + 1)) k = (fD (L.take i) k || (x.k == k)) := by
  rw [ns h]; simp [fD]
theorem sw {L : List Ch} {i : Nat} {x : Ch} (h : L[i]? = some x) : dh (L.take (i + 1)) = if x.k = bS then dh (L.take i) ++ x.d else dh (L.take i) := by
  rw [ns h]
  unfold dh
  rw [List.filter_append, List.flatMap_append, List.filter_cons, List.filter_nil]
  by_cases hk : x.k = bS
  · simp [hk]
  · simp [hk]
theorem vT (L : List Ch) (i : Nat) : jU (L.take i) ≤ jU L := by
  conv => rhs; rw [← List.take_append_drop i L]
  unfold jU
  rw [List.map_append, List.sum_append]
  omega
theorem Fi : bd ≠ bR := by decide
theorem JV : bd ≠ bS := by decide
theorem Kk : bR ≠ bS := by decide
def cnt (k : List Int) (l : List Ch) : Nat := (l.filter fun c => c.k == k).length
theorem vi (k : List Int) (c : Ch) (l : List Ch) : cnt k (c :: l) = (if c.k = k then 1 else 0) + cnt k l := by
  unfold cnt
  rw [List.filter_cons]
  by_cases h : c.k = k
  · simp [h]; omega
  · simp [h]
theorem uT {k : List Int} : ∀ {l : List Ch} {d : List Int}, cnt k l = 0 → l.foldl (fun d c => if c.k = k then c.d else d) d = d
  | [], d, _ => rfl
  | c :: l, d, h => by
    rw [vi] at h
    have hc : c.k ≠ k := fun e => by rw [if_pos e] at h; omega
    rw [List.foldl_cons, if_neg hc]
    exact uT (by omega)
theorem tD {k : List Int} : ∀ {l : List Ch}, cnt k l ≤ 1 → lX l k = cE l k
  | [], _ => rfl
  | c :: l, h => by
    rw [vi] at h
    unfold lX cE
    rw [List.foldl_cons, List.find?_cons]
    by_cases hc : c.k = k
    · rw [if_pos hc] at h ⊢
      rw [uT (by omega)]
      simp [hc]
    · rw [if_neg hc] at h ⊢
      have := tD (k := k) (l := l) (by omega)
      unfold lX cE at this
      have hb : (c.k == k) = false := beq_false_of_ne hc
      simp only [hb, if_neg hc, this]
theorem Bn {n i : Nat} {prev : List Int} {c : Ch} {s s2 : Od} (h : eE n i prev c s = some s2) : s2.iT = s.iT + (if c.k = bd then 1 else 0) ∧ s2.gA = s.gA + (if c.k = bR then 1 else 0) := by
  have d1 : dm ≠ bd := by decide
  have d2 : dm ≠ bR := by decide
  have d3 : cu ≠ bd := by decide
  have d4 : cu ≠ bR := by decide
  have d5 : bS ≠ bd := by decide
  have d6 : bS ≠ bR := by decide
  have d7 : bd ≠ bR := by decide
  unfold eE at h
  split at h
  · rename_i hk
    rw [hk, if_neg d1, if_neg d2]
    split at h
    · cases h
    · cases h; exact ⟨rfl, rfl⟩
  · split at h
    · rename_i hk
      rw [hk, if_neg d3, if_neg d4]
      split at h
      · cases h
      · cases h; exact ⟨rfl, rfl⟩
    · split at h
      · rename_i hk
        rw [hk, if_neg d5, if_neg d6]
        split at h
        · cases h
        · cases h; exact ⟨rfl, rfl⟩
      · split at h
        · rename_i hk
          rw [hk, if_pos rfl, if_neg d7]
          split at h
          · cases h
          · cases h; exact ⟨rfl, rfl⟩
        · rename_i hp
          split at h
          · rename_i hk
            rw [if_neg hp, if_pos hk]
            split at h
            · cases h
            · cases h; exact ⟨rfl, rfl⟩
          · rename_i hk
            rw [if_neg hp, if_neg hk]
            split at h
            · cases h
            · cases h; exact ⟨rfl, rfl⟩
theorem x8 {n : Nat} : ∀ {l : List Ch} {i : Nat} {prev : List Int} {s : Od}, lz n i prev l s = true → s.iT + cnt bd l ≤ 1 ∧ s.gA + cnt bR l ≤ 1
  | [], i, prev, s, h => by
    rw [lz] at h
    unfold rU at h
    simp only [Bool.and_eq_true, decide_eq_true_eq] at h
    exact ⟨h.1.2, h.2⟩
  | c :: l, i, prev, s, h => by
    rw [lz] at h
    split at h
    · cases h
    · rename_i s2 hs
      have ih := x8 h
      obtain ⟨e1, e2⟩ := Bn hs
      rw [vi, vi]
      omega
theorem Ep {l : List Ch} (h : dN l = true) : lX l bd = cE l bd ∧ lX l bR = cE l bR := by
  rw [← GL] at h
  have := x8 h
  exact ⟨tD (by omega), tD (by omega)⟩
theorem vb {l : List Ch} (h : dN l = true) : 3 ≤ l.length := by
  unfold dN at h
  simp only [Bool.and_eq_true, decide_eq_true_eq] at h
  exact h.1.1.1.1.1
theorem wq {k : List Int} : ∀ {L : List Ch} {i : Nat} {x : Ch}, L[i]? = some x → x.k = k → (∀ j, j < i → ∀ c, L[j]? = some c → c.k ≠ k) → cE L k = x.d ∧ fD L k = true
  | [], i, x, h, _, _ => by simp at h
  | c :: L, 0, x, h, hk, _ => by
    simp only [List.getElem?_cons_zero, Option.some.injEq] at h
    subst h
    simp [cE, fD, hk]
  | c :: L, i + 1, x, h, hk, hall => by
    simp only [List.getElem?_cons_succ] at h
    have hc := hall 0 (by omega) c rfl
    have := wq h hk (fun j hj y hy => hall (j + 1) (by omega) y (by simpa using hy))
    unfold cE fD at this ⊢
    have hb : (c.k == k) = false := beq_false_of_ne hc
    simp only [List.find?_cons, List.any_cons, hb, Bool.false_or, this]
    exact ⟨trivial, trivial⟩
theorem wy {k : List Int} : ∀ {L : List Ch}, (∀ j, j < L.length → ∀ c, L[j]? = some c → c.k ≠ k) → cE L k = [] ∧ fD L k = false
  | [], _ => ⟨rfl, rfl⟩
  | c :: L, hall => by
    have hc := hall 0 (by simp) c rfl
    have := wy (k := k) (L := L) (fun j hj y hy => hall (j + 1) (by simp; omega) y (by simpa using hy))
    unfold cE fD at this ⊢
    have hb : (c.k == k) = false := beq_false_of_ne hc
    simp only [List.find?_cons, List.any_cons, hb, Bool.false_or, this]
    exact ⟨trivial, trivial⟩
theorem od {k : List Int} {L : List Ch} (h : fD L k = false) : cE L k = [] := by
  unfold fD at h
  unfold cE
  have : L.find? (fun c => c.k == k) = none := by
    rw [List.find?_eq_none]
    intro c hc hk
    rw [List.any_eq_false] at h
    exact h c hc hk
  rw [this]
def ju (h : Hd) (plte : List Int) (has : Bool) : Prop := if has then ¬ (h.ax = 0 ∨ h.ax = 4) ∧ (h.ax = 3 → (plte.length : Int) / 3 ≤ 2 ^ h.dep.toNat) ∧ plte.length % 3 = 0 ∧ 0 < plte.length ∧ plte.length / 3 ≤ 256 else h.ax ≠ 3
def jC (h : Hd) (plte trns : List Int) (is : Bool) : Prop := is = true → (h.ax = 3 ∧ trns.length ≤ plte.length / 3) ∨ (h.ax = 0 ∧ trns.length = 2) ∨ (h.ax = 2 ∧ trns.length = 6)
instance (h : Hd) (plte : List Int) (has : Bool) : Decidable (ju h plte has) := by unfold ju; infer_instance
instance (h : Hd) (plte trns : List Int) (is : Bool) : Decidable (jC h plte trns is) := by unfold jC; infer_instance
theorem Li (h : Hd) (plte : List Int) : ju h plte false ↔ h.ax ≠ 3 := Iff.rfl
theorem Im {h : Hd} {plte : List Int} {P : Int} (hP : P = 2 ^ h.dep.toNat) : (h.ax = 0 ∧ ¬ ju h plte true) ∨ (¬ h.ax = 0 ∧ h.ax = 4 ∧ ¬ ju h plte true) ∨
    (¬ h.ax = 0 ∧ ¬ h.ax = 4 ∧ h.ax = 3 ∧ P < (plte.length : Int) / 3 ∧ ¬ ju h plte true) ∨
    (¬ h.ax = 0 ∧ ¬ h.ax = 4 ∧ h.ax = 3 ∧ ¬ P < (plte.length : Int) / 3 ∧ (ju h plte true ↔ plte.length % 3 = 0 ∧ 0 < plte.length ∧ plte.length / 3 ≤ 256)) ∨
    (¬ h.ax = 0 ∧ ¬ h.ax = 4 ∧ ¬ h.ax = 3 ∧ (ju h plte true ↔ plte.length % 3 = 0 ∧ 0 < plte.length ∧ plte.length / 3 ≤ 256)) := by
  subst hP
  unfold ju
  simp only [if_true]
  by_cases h0 : h.ax = 0
  · exact .inl ⟨h0, fun hh => hh.1 (.inl h0)⟩
  · by_cases h4 : h.ax = 4
    · exact .inr (.inl ⟨h0, h4, fun hh => hh.1 (.inr h4)⟩)
    · by_cases h3 : h.ax = 3
      · by_cases hp : (2 : Int) ^ h.dep.toNat < (plte.length : Int) / 3
        · exact .inr (.inr (.inl ⟨h0, h4, h3, hp, fun hh => Int.not_lt.2 (hh.2.1 h3) hp⟩))
        · exact .inr (.inr (.inr (.inl ⟨h0, h4, h3, hp, ⟨fun hh => hh.2.2, fun hh => ⟨fun h => h.elim h0 h4, fun _ => Int.not_lt.1 hp, hh⟩⟩⟩)))
      · exact .inr (.inr (.inr (.inr ⟨h0, h4, h3, ⟨fun hh => hh.2.2, fun hh => ⟨fun h => h.elim h0 h4, fun h => absurd h h3, hh⟩⟩⟩)))
theorem LR (n : Nat) : (¬ n % 3 = 0) ∨ (n % 3 = 0 ∧ ¬ 0 < n) ∨ (n % 3 = 0 ∧ 0 < n) := by omega
theorem I4 (h : Hd) (plte trns : List Int) : jC h plte trns false := fun hh => by cases hh
theorem J0 (h : Hd) (plte trns : List Int) : (h.ax = 3 ∧ (jC h plte trns true ↔ trns.length ≤ plte.length / 3)) ∨ (¬ h.ax = 3 ∧ h.ax = 0 ∧ ¬ trns.length = 2 ∧ ¬ jC h plte trns true) ∨ (¬ h.ax = 3 ∧ h.ax = 0 ∧ trns.length = 2 ∧ jC h plte trns true) ∨
    (¬ h.ax = 3 ∧ ¬ h.ax = 0 ∧ h.ax = 2 ∧ ¬ trns.length = 6 ∧ ¬ jC h plte trns true) ∨ (¬ h.ax = 3 ∧ ¬ h.ax = 0 ∧ h.ax = 2 ∧ trns.length = 6 ∧ jC h plte trns true) ∨ (¬ h.ax = 3 ∧ ¬ h.ax = 0 ∧ ¬ h.ax = 2 ∧ ¬ jC h plte trns true) := by
  unfold jC
  simp only [true_implies]
  omega
theorem GH {x P : Int} {d : Int} (hP : P = 2 ^ d.toNat) (hd : jv d) (hx : 0 ≤ x ∧ x < 65536) : IntKind.i64.wrap ((BitVec.ofInt IntKind.i64.bits x &&& BitVec.ofInt IntKind.i64.bits (P - 1)).toNat : Int) = x % P := by
  obtain ⟨n, rfl⟩ : ∃ n : Nat, x = (n : Int) := ⟨x.toNat, by omega⟩
  subst hP
  have key : ∀ m : Nat, m ≤ 16 → IntKind.i64.wrap ((BitVec.ofInt IntKind.i64.bits (n : Int) &&& BitVec.ofInt IntKind.i64.bits (2 ^ m - 1)).toNat : Int) = (n : Int) % 2 ^ m := by
    intro m hm
    have e : IntKind.i64.bits = 64 := rfl
    have hp : (2 : Nat) ^ m ≤ 2 ^ 16 := Nat.pow_le_pow_right (by decide) hm
    have hp1 : (1 : Nat) ≤ 2 ^ m := Nat.one_le_two_pow
    have e1 : BitVec.ofInt 64 ((2 : Int) ^ m - 1) = BitVec.ofNat 64 (2 ^ m - 1) := by
      rw [show (2 : Int) ^ m - 1 = ((2 ^ m - 1 : Nat) : Int) from by push_cast [hp1]; rfl, BitVec.ofInt_natCast]
    rw [e, BitVec.ofInt_natCast, e1, BitVec.toNat_and, BitVec.toNat_ofNat, BitVec.toNat_ofNat, Nat.mod_eq_of_lt (by omega), Nat.mod_eq_of_lt (by omega), Nat.and_two_pow_sub_one_eq_mod]
    have h2 : n % 2 ^ m ≤ n := Nat.mod_le ..
    rw [gR (by omega) (by omega)]
    simp
  exact key _ (by have := jM hd; omega)
theorem Nc {h : Hd} {trns : List Int} (hc : h.ax = 0 ∨ h.ax = 2) (hl : trns.length / 2 = (parts h.ax).toNat) {i : Nat} (hi : i < (parts h.ax).toNat) : (bA h trns).take (i + 1) = (bA h trns).take i ++ [(trns.getD (2 * i) 0 * 256 + trns.getD (2 * i + 1) 0) % 2 ^ h.dep.toNat] ∧ (bA h trns).length = (parts h.ax).toNat := by
  unfold bA
  rw [if_pos hc]
  refine ⟨?_, by simp [hl]⟩
  rw [List.take_add_one]
  simp [hl, hi]
theorem Gp {h : Hd} {trns : List Int} (hc : h.ax = 0 ∨ h.ax = 2) (hl : trns.length / 2 = (parts h.ax).toNat) : (bA h trns).length = (parts h.ax).toNat := by
  unfold bA
  rw [if_pos hc]; simp [hl]
theorem M0 {h : Hd} {trns : List Int} (hc : ¬ (h.ax = 0 ∨ h.ax = 2)) : bA h trns = [] := by unfold bA; rw [if_neg hc]
theorem HG (h : Hd) : bA h [] = [] := by unfold bA; split <;> rfl
end Go.aa
namespace Go.aa
open Go.aj Go.Sl
theorem Dl {B : List Int} (hB : av B) {k : Nat} : cU B (16 * k) 16 = B.getD (2 * k) 0 * 256 + B.getD (2 * k + 1) 0 := by
  rw [show 16 * k = 8 * (2 * k) by omega, qJ (hB.get _) (hB.get _)]
end Go.aa
namespace Go.aa
open Go.aj Go.Sl
def gq (f : Fl) : Prop := deep f.hd.ax f.hd.dep ∧ av f.plte ∧ av f.trns ∧ f.plte.length < 500000000 ∧ f.trns.length < 500000000 ∧ (f.hd.ax = 0 → f.trns.length = 0 ∨ f.trns.length = 2) ∧ (f.hd.ax = 2 → f.trns.length = 0 ∨ f.trns.length = 6) ∧ (f.hd.ax = 4 ∨ f.hd.ax = 6 → f.trns = []) ∧ (f.hd.ax = 3 → f.plte.length % 3 = 0)
theorem ie {c d : Int} (h : deep c d) : (c = 0 ∧ parts c = 1) ∨ (c = 2 ∧ parts c = 3) ∨ (c = 3 ∧ parts c = 1) ∨ (c = 4 ∧ parts c = 2) ∨ (c = 6 ∧ parts c = 4) := by
  have hp := sM c
  unfold deep at h
  omega
def vV (pl tr : List Int) (k : Nat) : Option (List Int) := if pl.length / 3 ≤ k then none else some [(pl.drop (3 * k)).getD 0 0 * 257, (pl.drop (3 * k)).getD 1 0 * 257, (pl.drop (3 * k)).getD 2 0 * 257, if k < tr.length then tr.getD k 0 * 257 else 65535]
def pM (f : Fl) (v : List Int) : Int := if 0 < (bA f.hd f.trns).length ∧ v = bA f.hd f.trns then 0 else if f.hd.ax = 4 ∨ f.hd.ax = 6 then (v.map (up f.hd.dep)).getD ((v.map (up f.hd.dep)).length - 1) 0 else 65535
theorem xg {f : Fl} {v : List Int} (h : f.hd.ax = 3) : iX f v = vV f.plte f.trns (v.getD 0 0).toNat := by
  unfold iX vV
  rw [if_pos h]
  split
  · rfl
  · rw [gD, gD, gD]
    rfl
theorem sI {f : Fl} {v : List Int} (h : ¬ f.hd.ax = 3) : iX f v = some (if f.hd.ax = 0 ∨ f.hd.ax = 4 then [(v.map (up f.hd.dep)).getD 0 0, (v.map (up f.hd.dep)).getD 0 0, (v.map (up f.hd.dep)).getD 0 0, pM f v] else [(v.map (up f.hd.dep)).getD 0 0, (v.map (up f.hd.dep)).getD 1 0, (v.map (up f.hd.dep)).getD 2 0, pM f v]) := by
  unfold iX pM
  rw [if_neg h]
  show (if f.hd.ax = 0 ∨ f.hd.ax = 4 then _ else _) = _
  split <;> rfl
theorem yn {f : Fl} {v : List Int} (h : f.hd.ax = 0 ∨ f.hd.ax = 4) : iX f v = some [(v.map (up f.hd.dep)).getD 0 0, (v.map (up f.hd.dep)).getD 0 0, (v.map (up f.hd.dep)).getD 0 0, pM f v] := by rw [sI (by omega), if_pos h]
theorem H5 {f : Fl} {v : List Int} (h : ¬ (f.hd.ax = 0 ∨ f.hd.ax = 4)) (h3 : ¬ f.hd.ax = 3) : iX f v = some [(v.map (up f.hd.dep)).getD 0 0, (v.map (up f.hd.dep)).getD 1 0, (v.map (up f.hd.dep)).getD 2 0, pM f v] := by rw [sI h3, if_neg h]
theorem I6 {pl tr : List Int} {k : Nat} (h : pl.length / 3 ≤ k) : vV pl tr k = none := if_pos h
theorem BK {pl tr : List Int} {k : Nat} (h : ¬ pl.length / 3 ≤ k) : vV pl tr k = some [(pl.drop (3 * k)).getD 0 0 * 257, (pl.drop (3 * k)).getD 1 0 * 257, (pl.drop (3 * k)).getD 2 0 * 257, if k < tr.length then tr.getD k 0 * 257 else 65535] := if_neg h
theorem Aj {v : List Int} {d : Int} {i : Nat} (h : i < v.length) : (v.map (up d)).take i ++ [up d (v.getD i 0)] = (v.map (up d)).take (i + 1) := by
  rw [List.take_add_one]
  simp [h, List.getD_eq_getElem?_getD]
def sm (h : Hd) (row : List Int) (x i : Nat) : Int := cU row (x * (parts h.ax).toNat * h.dep.toNat + i * h.dep.toNat) h.dep.toNat
theorem lG (h : Hd) (row : List Int) (x : Nat) : (fC h row x).length = (parts h.ax).toNat := by simp [fC]
theorem Ha {h : Hd} {row : List Int} {x i : Nat} (hi : i < (parts h.ax).toNat) : (fC h row x).getD i 0 = sm h row x i := by simp [fC, sm, hi, List.getD_eq_getElem?_getD]
theorem ud {h : Hd} {row : List Int} {x : Nat} : ∀ y ∈ fC h row x, 0 ≤ y ∧ y < 2 ^ h.dep.toNat := fun y hy => by
  unfold fC at hy
  obtain ⟨i, _, rfl⟩ := List.mem_map.1 hy
  exact mC _ _ _
def RL (S : List Int) (i : Nat) : List Int := S.take i ++ List.replicate (4 - i) 0
def ky (h : Hd) (tr S : List Int) (i : Nat) : Bool := decide (0 < tr.length) && (List.range i).all fun j => decide ((tr.getD (2 * j) 0 * 256 + tr.getD (2 * j + 1) 0) % 2 ^ h.dep.toNat = S.getD j 0)
theorem G5 {w bits : Int} {x : Nat} {n : Nat} (hx : (x : Int) < w) (hb : 0 ≤ bits) (hn : (n : Int) = ff w bits) : (x : Int) * bits + bits ≤ 8 * n := by
  rw [hn]
  unfold ff
  have h1 : ((x : Int) + 1) * bits ≤ w * bits := Int.mul_le_mul_of_nonneg_right (by omega) hb
  rw [Int.add_mul, Int.one_mul] at h1
  omega
end Go.aa
namespace Go.aa
open Go.aj Go.Sl
theorem ja {l : List Int} {i : Nat} (h : i < l.length) : l.getD i 0 ∈ l := by
  rw [List.getD_eq_getElem?_getD, List.getElem?_eq_getElem h]
  exact List.getElem_mem h
theorem u9 {a b c d a' b' c' d' : Int} (h : some [a, b, c, d] = some [a', b', c', d']) : a = a' ∧ b = b' ∧ c = c' ∧ d = d' := by
  simpa using h
theorem tf (b : Bool) : b = true ∨ b = false := by cases b <;> simp
end Go.aa
namespace Go.aa
open Go.aj Go.Sl
theorem HK (f : Fl) (v : List Int) : iX f v = none ∨ ∃ a b c d, iX f v = some [a, b, c, d] := by
  by_cases h3 : f.hd.ax = 3
  · rw [xg h3]
    unfold vV
    split
    · exact .inl rfl
    · exact .inr ⟨_, _, _, _, rfl⟩
  · rw [sI h3]
    split
    · exact .inr ⟨_, _, _, _, rfl⟩
    · exact .inr ⟨_, _, _, _, rfl⟩
def vN (S old : List Int) (k : Nat) : List Int := S.take k ++ old.drop k
theorem PA (S old : List Int) : vN S old 0 = old := rfl
theorem KI {S old : List Int} {k : Nat} (h : S.length = old.length) (hk : k ≤ S.length) : (vN S old k).length = S.length := by simp [vN]; omega
theorem Lu {S old : List Int} (h : S.length = old.length) : vN S old S.length = S := by
  unfold vN
  rw [List.take_length, List.drop_eq_nil_of_le (by omega), List.append_nil]
theorem Ov {S old : List Int} {k : Nat} (h : S.length = old.length) (hk : k < S.length) : (vN S old k).set k (S.getD k 0) = vN S old (k + 1) := by
  unfold vN
  have hl : (S.take k).length = k := by rw [List.length_take]; omega
  rw [List.drop_eq_getElem_cons (show k < old.length by omega), yC hl, List.take_add_one, List.append_assoc]
  congr 1
  simp [hk, List.getD_eq_getElem?_getD]
theorem Px {h : Hd} {row old : List Int} {x N D k : Nat} (hN : N = (parts h.ax).toNat) (hD : D = h.dep.toNat) (ho : old.length = N) (hk : k < N) : (vN (fC h row x) old k).set ((k : Int)).toNat (cU row (x * N * D + k * D) D) = vN (fC h row x) old (k + 1) := by
  subst hN; subst hD
  have e := Ha (h := h) (row := row) (x := x) hk
  unfold sm at e
  rw [← e, show ((k : Int)).toNat = k from rfl]
  exact Ov (by rw [lG, ho]) (by rw [lG]; exact hk)
def kS (p : Ps) (w h : Int) : Prop := jV p ∧ (∀ k : Int, 0 ≤ k → k < p.w → p.x + k * p.dx < w) ∧ ∀ k : Int, 0 ≤ k → k < p.h → p.y + k * p.dy < h
theorem LB {x y dx dy w h : Int} (hx : 0 ≤ x ∧ x ≤ 8) (hy : 0 ≤ y ∧ y ≤ 8) (hdx : dx = 1 ∨ dx = 2 ∨ dx = 4 ∨ dx = 8) (hdy : dy = 1 ∨ dy = 2 ∨ dy = 4 ∨ dy = 8) (hw : 0 ≤ w ∧ w ≤ 256) (hh : 0 ≤ h ∧ h ≤ 256) : kS (tn x y dx dy w h) w h :=
  ⟨Cj hx hy hdx hdy hw hh, fun k h0 hk => (yx hdx h0).2 hk, fun k h0 hk => (yx hdy h0).2 hk⟩
theorem uR {w h : Int} (hw : 0 ≤ w ∧ w ≤ 256) (hh : 0 ≤ h ∧ h ≤ 256) : ∀ p ∈ gj w h, kS p w h := fun p hp => by
  have hm := (List.mem_filter.1 hp).1
  unfold jc at hm
  simp only [List.mem_cons, List.not_mem_nil, or_false] at hm
  rcases hm with rfl | rfl | rfl | rfl | rfl | rfl | rfl <;> exact LB (by decide) (by decide) (by decide) (by decide) hw hh
theorem xr {w h : Int} (hw : 0 ≤ w ∧ w ≤ 256) (hh : 0 ≤ h ∧ h ≤ 256) : ∀ p ∈ whole w h, kS p w h := fun p hp => by
  have := (vD hw hh).1 p hp
  unfold whole at hp
  rw [List.mem_singleton.1 hp] at this ⊢
  exact ⟨this, fun k h0 hk => by show 0 + k * 1 < w; have : k < w := hk; omega, fun k h0 hk => by show 0 + k * 1 < h; have : k < h := hk; omega⟩
section
variable {f : Fl} {p : Ps} {y : Int} {row : List Int} {i : Nat} {P : List Int} {r : Option (List Int)}
theorem KD (hi : (i : Int) < p.w) (hpx : iX f (fC f.hd row i) = none) (h : gK f p y row (p.w.toNat - i) i P = r) : r = none := by
  rw [show p.w.toNat - i = (p.w.toNat - (i + 1)) + 1 by omega, gK, hpx] at h
  exact h.symm
theorem LX {c : List Int} (hi : (i : Int) < p.w) (hpx : iX f (fC f.hd row i) = some c) (h : gK f p y row (p.w.toNat - i) i P = r) : gK f p y row (p.w.toNat - (i + 1)) (i + 1) (lE f.hd.w P (p.x + i * p.dx) (p.y + y * p.dy) c) = r := by
  rw [show p.w.toNat - i = (p.w.toNat - (i + 1)) + 1 by omega, gK, hpx] at h
  exact h
theorem KB (hi : ¬ (i : Int) < p.w) (h : gK f p y row (p.w.toNat - i) i P = r) : r = some P := by
  rw [show p.w.toNat - i = 0 by omega, gK] at h
  exact h.symm
end
section
variable {f : Fl} {D : List Int} {n back : Nat} {p : Ps} {y a : Nat} {A P : List Int} {r : Option (Nat × List Int)}
theorem Gq (hy : (y : Int) < p.h) (hk : 4 < D.getD a 0) (h : ft f D n back p (p.h.toNat - y) y a A P = r) : r = none := by
  rw [show p.h.toNat - y = (p.h.toNat - (y + 1)) + 1 by omega, ft, if_pos hk] at h
  exact h.symm
theorem Hu (hy : (y : Int) < p.h) (hk : ¬ 4 < D.getD a 0) (hr : gK f p y (gl (D.getD a 0) ((D.drop (a + 1)).take n) A back) p.w.toNat 0 P = none) (h : ft f D n back p (p.h.toNat - y) y a A P = r) : r = none := by
  rw [show p.h.toNat - y = (p.h.toNat - (y + 1)) + 1 by omega, ft, if_neg hk, hr] at h
  exact h.symm
theorem Gn {P2 : List Int} (hy : (y : Int) < p.h) (hk : ¬ 4 < D.getD a 0) (hr : gK f p y (gl (D.getD a 0) ((D.drop (a + 1)).take n) A back) p.w.toNat 0 P = some P2) (h : ft f D n back p (p.h.toNat - y) y a A P = r) : ft f D n back p (p.h.toNat - (y + 1)) (y + 1) (a + 1 + n) (gl (D.getD a 0) ((D.drop (a + 1)).take n) A back) P2 = r := by
  rw [show p.h.toNat - y = (p.h.toNat - (y + 1)) + 1 by omega, ft, if_neg hk, hr] at h
  exact h
theorem HE (hy : ¬ (y : Int) < p.h) (h : ft f D n back p (p.h.toNat - y) y a A P = r) : r = some (a, P) := by
  rw [show p.h.toNat - y = 0 by omega, ft] at h
  exact h.symm
theorem NC (f : Fl) (D : List Int) (n back : Nat) (p : Ps) (y a : Nat) (A P : List Int) : 4 < D.getD a 0 ∨ (¬ 4 < D.getD a 0 ∧ gK f p y (gl (D.getD a 0) ((D.drop (a + 1)).take n) A back) p.w.toNat 0 P = none) ∨ (¬ 4 < D.getD a 0 ∧ ∃ P2, gK f p y (gl (D.getD a 0) ((D.drop (a + 1)).take n) A back) p.w.toNat 0 P = some P2) := by
  by_cases h : 4 < D.getD a 0
  · exact .inl h
  · cases hr : gK f p y (gl (D.getD a 0) ((D.drop (a + 1)).take n) A back) p.w.toNat 0 P with
    | none => exact .inr (.inl ⟨h, rfl⟩)
    | some P2 => exact .inr (.inr ⟨h, P2, rfl⟩)
end
theorem JO (x : Int) : (if 1 < x then x else 1) = max 1 x := by split <;> omega
theorem tH (kind : Int) (row above : List Int) (back : Nat) : av (gl kind row above back) := rE kind row above back row.length
def nH (bits : Int) (l : List Ps) : Nat := (l.map fun p => p.h.toNat * (1 + (ff p.w bits).toNat)).sum
theorem Cs (bits : Int) (p : Ps) (l : List Ps) : nH bits (p :: l) = p.h.toNat * (1 + (ff p.w bits).toNat) + nH bits l := by simp [nH]
theorem sT {bits : Int} (hb : 0 ≤ bits ∧ bits ≤ 64) : ∀ {l : List Ps}, (∀ p ∈ l, jV p ∧ 0 < p.w) → (nH bits l : Int) = fQ l bits
  | [], _ => rfl
  | p :: l, h => by
    have ih := sT hb (fun q hq => h q (List.mem_cons_of_mem _ hq))
    obtain ⟨ho, hw⟩ := h p (List.mem_cons_self ..)
    obtain ⟨_, _, _, _, _, _, hw0, hw1, hh0, hh1⟩ := ho
    have hr := nX ⟨hw0, hw1⟩ hb
    rw [Cs]
    unfold fQ at ih ⊢
    rw [List.map_cons, List.sum_cons, if_pos hw, ← ih]
    push_cast
    rw [Int.toNat_of_nonneg hh0, Int.toNat_of_nonneg hr.2.2.1]
theorem D5 {w h : Int} : ∀ p ∈ gj w h, 0 < p.w := fun p hp => by
  have := (List.mem_filter.1 hp).2
  simp only [Bool.and_eq_true, decide_eq_true_eq] at this
  exact this.1
theorem HO {w h : Int} (hw : 0 < w) : ∀ p ∈ whole w h, 0 < p.w := fun p hp => by
  unfold whole at hp
  rw [List.mem_singleton.1 hp]
  exact hw
end Go.aa
namespace Go.aa
open Go.aj Go.Sl
theorem jx : av [] := fun x hx => by cases hx
theorem wL {h : Hd} {p : Ps} {nr : Nat} (hp : 0 ≤ parts h.ax) (hd : 0 ≤ h.dep) (hnr : (nr : Int) = ff p.w (parts h.ax * h.dep)) : ∀ i : Nat, (i : Int) < p.w → i * (parts h.ax).toNat * h.dep.toNat + (parts h.ax).toNat * h.dep.toNat ≤ 8 * nr := fun i hi => by
  have hb := G5 hi (Int.mul_nonneg hp hd) hnr
  have e1 : ((i * (parts h.ax).toNat * h.dep.toNat + (parts h.ax).toNat * h.dep.toNat : Nat) : Int) = (i : Int) * (parts h.ax * h.dep) + parts h.ax * h.dep := by
    push_cast
    rw [Int.toNat_of_nonneg hp, Int.toNat_of_nonneg hd, Int.mul_assoc]
  omega
end Go.aa
namespace Go.aa
open Go.aj Go.Sl
theorem kM {h : Hd} (hs : bN h.w h.h = 0) : (∀ p ∈ bg h, kS p h.w h.h ∧ jV p ∧ 0 < p.w) ∧ (bg h).length ≤ 7 := by
  have hsd := jY hs
  unfold bg
  cases h.cm with
  | true => exact ⟨fun p hp => ⟨uR (by omega) (by omega) p hp, (uR (by omega) (by omega) p hp).1, D5 p hp⟩, (Bi (by omega) (by omega)).2⟩
  | false => exact ⟨fun p hp => ⟨xr (by omega) (by omega) p hp, (xr (by omega) (by omega) p hp).1, HO (by omega) p hp⟩, (vD (by omega) (by omega)).2⟩
theorem zW {h : Hd} (hl : h.cm = true) : gj h.w h.h = bg h := by unfold bg; rw [hl]; rfl
theorem z8 {h : Hd} (hl : h.cm = false) : whole h.w h.h = bg h := by unfold bg; rw [hl]; rfl
def mf (f : Fl) (z : List Int × Int) : tt × Int := if z.2 ≠ 0 then (fk, z.2) else if (z.1.length : Int) < want f.hd then (fk, 2) else match gO f z.1 (bg f.hd) 0 (mr f.hd) with | none => (fk, 4) | some dv => (⟨f.hd.w, f.hd.h, dv⟩, 0)
theorem OK (f : Fl) (z : List Int × Int) : (z.2 ≠ 0 ∧ mf f z = (fk, z.2)) ∨ (¬ z.2 ≠ 0 ∧ (z.1.length : Int) < want f.hd ∧ mf f z = (fk, 2)) ∨ (¬ z.2 ≠ 0 ∧ ¬ (z.1.length : Int) < want f.hd) := by
  by_cases h1 : z.2 ≠ 0
  · exact .inl ⟨h1, if_pos h1⟩
  · by_cases h2 : (z.1.length : Int) < want f.hd
    · exact .inr (.inl ⟨h1, h2, by unfold mf; rw [if_neg h1, if_pos h2]⟩)
    · exact .inr (.inr ⟨h1, h2⟩)
theorem F3 {f : Fl} {z : List Int × Int} (h1 : ¬ z.2 ≠ 0) (h2 : ¬ (z.1.length : Int) < want f.hd) (h : gO f z.1 (bg f.hd) 0 (mr f.hd) = none) : mf f z = (fk, 4) := by unfold mf; rw [if_neg h1, if_neg h2, h]
theorem FV {f : Fl} {z : List Int × Int} {dv : List Int} (h1 : ¬ z.2 ≠ 0) (h2 : ¬ (z.1.length : Int) < want f.hd) (h : gO f z.1 (bg f.hd) 0 (mr f.hd) = some dv) : mf f z = (⟨f.hd.w, f.hd.h, dv⟩, 0) := by unfold mf; rw [if_neg h1, if_neg h2, h]
theorem Co {h : Hd} (hs : bN h.w h.h = 0) (hd : deep h.ax h.dep) : (nH (bitsOf h) (bg h) : Int) = want h := by
  have hb := mh hd
  exact sT ⟨by unfold bitsOf; omega, by unfold bitsOf; omega⟩ (fun p hp => ⟨((kM hs).1 p hp).2.1, ((kM hs).1 p hp).2.2⟩)
theorem H3 {h : Hd} (hs : bN h.w h.h = 0) (hd : deep h.ax h.dep) : 0 ≤ want h ∧ want h < 500000000 := by
  have hb := mh hd
  have h1 := u0 (l := bg h) (bits := bitsOf h) ⟨by unfold bitsOf; omega, by unfold bitsOf; omega⟩ (fun p hp => ((kM hs).1 p hp).2.1)
  have h7 := (kM hs).2
  unfold want
  omega
theorem tY {l : List Ps} {i : Nat} (h : i < l.length) : l.drop i = l.getD i ⟨0, 0, 0, 0, 0, 0⟩ :: l.drop (i + 1) := by
  rw [List.drop_eq_getElem_cons h, List.getD_eq_getElem?_getD, List.getElem?_eq_getElem h]
  rfl
def lF (h : Hd) (p : Ps) : Nat := (ff p.w (bitsOf h)).toNat
def nJ (h : Hd) : Nat := (max 1 (bitsOf h / 8)).toNat
theorem yH {h : Hd} {p : Ps} (hp : jV p) (hd : deep h.ax h.dep) : (lF h p : Int) = ff p.w (parts h.ax * h.dep) := by
  have hb := mh hd
  obtain ⟨_, _, _, _, _, _, hw0, hw1, _, _⟩ := hp
  have := nX (w := p.w) (bits := parts h.ax * h.dep) ⟨hw0, hw1⟩ (by omega)
  exact Int.toNat_of_nonneg this.2.2.1
theorem yq (h : Hd) : (nJ h : Int) = max 1 (parts h.ax * h.dep / 8) := Int.toNat_of_nonneg (by unfold bitsOf; omega)
section
variable {f : Fl} {D : List Int} {l : List Ps} {i a : Nat} {P : List Int} {x : Ps} {r : Option (List Int)}
theorem IT (hi : i < l.length) (hx : x = l.getD i ⟨0, 0, 0, 0, 0, 0⟩) (hr : ft f D (lF f.hd x) (nJ f.hd) x x.h.toNat 0 a [] P = none) (h : gO f D (l.drop i) a P = r) : r = none := by
  rw [tY hi, ← hx, gO] at h
  unfold lF nJ at hr
  rw [hr] at h
  exact h.symm
theorem KZ {a2 : Nat} {P2 : List Int} (hi : i < l.length) (hx : x = l.getD i ⟨0, 0, 0, 0, 0, 0⟩) (hr : ft f D (lF f.hd x) (nJ f.hd) x x.h.toNat 0 a [] P = some (a2, P2)) (h : gO f D (l.drop i) a P = r) : gO f D (l.drop (i + 1)) a2 P2 = r := by
  rw [tY hi, ← hx, gO] at h
  unfold lF nJ at hr
  rw [hr] at h
  exact h
theorem Kd (hi : ¬ i < l.length) (h : gO f D (l.drop i) a P = r) : r = some P := by
  rw [List.drop_eq_nil_of_le (by omega), gO] at h
  exact h.symm
theorem Je {bits : Int} (hi : i < l.length) (hx : x = l.getD i ⟨0, 0, 0, 0, 0, 0⟩) : nH bits (l.drop i) = x.h.toNat * (1 + (ff x.w bits).toNat) + nH bits (l.drop (i + 1)) := by rw [tY hi, ← hx, Cs]
theorem OY (o : Option (Nat × List Int)) : o = none ∨ ∃ a P, o = some (a, P) := by
  match o with
  | none => exact .inl rfl
  | some (a, P) => exact .inr ⟨a, P, rfl⟩
end
inductive QY (B : List Int) (r : tt × Int) : Prop
  | cut (e : Int) (h : aa.cut B = .error e) (hr : r = (fk, e))
  | ord (l : List Ch) (h : aa.cut B = .ok l) (ho : dN l = false) (hr : r = (fk, 4))
  | head (l : List Ch) (h : aa.cut B = .ok l) (ho : dN l = true) (hh : fO (fE l) ≠ 0) (hr : r = (fk, fO (fE l)))
  | tab1 (l : List Ch) (h : aa.cut B = .ok l) (ho : dN l = true) (hh : fO (fE l) = 0) (ht : ¬ ju (bj (fE l)) (cE l bd) (fD l bd)) (hr : r = (fk, 4))
  | tab2 (l : List Ch) (h : aa.cut B = .ok l) (ho : dN l = true) (hh : fO (fE l) = 0) (ht : ju (bj (fE l)) (cE l bd) (fD l bd)) (hc : ¬ jC (bj (fE l)) (cE l bd) (cE l bR) (fD l bR)) (hr : r = (fk, 4))
  | open_ (l : List Ch) (z : List Int × Int) (h : aa.cut B = .ok l) (ho : dN l = true) (hh : fO (fE l) = 0) (ht : ju (bj (fE l)) (cE l bd) (fD l bd)) (hc : jC (bj (fE l)) (cE l bd) (cE l bR) (fD l bR)) (hz : aL.nZ (dh l) (want (bj (fE l))) z) (hr : r = mf (xk l) z)
theorem nq.Pu {B : List Int} {r : tt × Int} (h : nq B r) : QY B r := by
  rcases h.ways with ⟨e, h1, h2⟩ | ⟨l, h1, h2, h3⟩ | ⟨l, h1, h2, h3, h4⟩ | ⟨l, h1, h2, h3, h4, h5⟩ | ⟨l, q, h1, h2, h3, h4, h5, h6⟩
  · exact .cut e h1 h2
  · exact .ord l h1 h2 h3
  · exact .head l h1 h2 h3 h4
  · by_cases ha : ju (bj (fE l)) (cE l bd) (fD l bd)
    · exact .tab2 l h1 h2 h3 ha (fun q => h4 ⟨ha, q⟩) h5
    · exact .tab1 l h1 h2 h3 ha h5
  · refine .open_ l q h1 h2 h3 h4.1 h4.2 h5 ?_
    rcases h6 with ⟨a, b⟩ | ⟨a, b, c⟩ | ⟨a, b, c, d⟩ | ⟨dv, a, b, c, d⟩
    · rw [b]; unfold mf; rw [if_pos a]
    · rw [c]; unfold mf; rw [if_neg (fun q => q a)]; exact (if_pos b).symm
    · rw [d]; exact (F3 (fun q => q a) (by show ¬ _ < want (bj (fE l)); omega) c).symm
    · rw [d]; exact (FV (f := xk l) (fun q => q a) (by show ¬ _ < want (bj (fE l)); omega) c).symm
theorem rV {B : List Int} (h : fO B = 0) : deep (bj B).ax (bj B).dep ∧ bN (bj B).w (bj B).h = 0 := by
  rcases xP B with ⟨_, e⟩ | ⟨_, _, e⟩ | ⟨_, _, _, e⟩ | ⟨_, _, _, _, e⟩ | ⟨_, _, _, _, _, e⟩ | ⟨_, _, _, _, _, _, e⟩ | ⟨_, _, _, _, _, _, _, e⟩ | ⟨_, h1, _, _, _, _, h2, _⟩
  all_goals first | (rw [h] at e; exact absurd e (by decide)) | exact ⟨h1, Classical.not_not.1 h2⟩
theorem GU {h : Hd} {pl tr : List Int} {has is : Bool} (hd : deep h.ax h.dep) (hB : av pl) (hBt : av tr) (hpl : pl.length < 500000000) (htl : tr.length < 500000000) (ha : ju h pl has) (hc : jC h pl tr is) (h0 : has = false → pl = []) (h1 : is = false → tr = []) : gq ⟨h, pl, tr⟩ := by
  refine ⟨hd, hB, hBt, hpl, htl, fun q => ?_, fun q => ?_, fun q => ?_, fun q => ?_⟩
  all_goals have q : _ := q
  · cases is with
    | false => exact .inl (by rw [h1 rfl]; rfl)
    | true => have := hc rfl; have q : h.ax = 0 := q; show tr.length = 0 ∨ tr.length = 2; omega
  · cases is with
    | false => exact .inl (by rw [h1 rfl]; rfl)
    | true => have := hc rfl; have q : h.ax = 2 := q; show tr.length = 0 ∨ tr.length = 6; omega
  · cases is with
    | false => exact h1 rfl
    | true => have := hc rfl; have q : h.ax = 4 ∨ h.ax = 6 := q; omega
  · have q : h.ax = 3 := q
    cases has with
    | false => exact absurd q ha
    | true => exact ha.2.2.1
theorem Hg (h : Hd) : fQ (bg h) (parts h.ax * h.dep) = want h := rfl
theorem C4 {l : List Ps} {i : Nat} (h : i < l.length) : l.getD i ⟨0, 0, 0, 0, 0, 0⟩ ∈ l := by
  rw [List.getD_eq_getElem?_getD, List.getElem?_eq_getElem h]
  exact List.getElem_mem h
theorem Lt {B : List Int} {mo : Int} {q : List Int × Int} (hB : av B) (hm : mo < 500000000) (h : aL.nZ B mo q) : av q.1 ∧ q.1.length < 500000000 := by
  rcases h.ways hB hm with ⟨_, rfl⟩ | ⟨_, _, rfl⟩ | ⟨e, _, _, _, _, rfl⟩ | ⟨x, n, _, _, _, _, _, _, _, rfl⟩ | ⟨x, n, _, _, _, _, _, _, _, rfl⟩ | ⟨x, n, _, _, _, _, _, _, _, _, rfl⟩ | ⟨x, n, _, _, _, h1, h2, _, _, _, rfl⟩
  · exact ⟨jx, Nat.zero_lt_succ _⟩
  · exact ⟨jx, Nat.zero_lt_succ _⟩
  · exact ⟨jx, Nat.zero_lt_succ _⟩
  · exact ⟨jx, Nat.zero_lt_succ _⟩
  · exact ⟨jx, Nat.zero_lt_succ _⟩
  · exact ⟨jx, Nat.zero_lt_succ _⟩
  · exact ⟨h1, h2⟩
end Go.aa
namespace Go.aa
open Go.aj Go.Sl
theorem Eh {L : List Int} {e : Int} (h : first L = .error e) : e ≠ 0 := by
  unfold first at h
  split at h
  · cases h; decide
  · split at h
    · cases h; decide
    · split at h
      · cases h; decide
      · split at h
        · cases h
        · cases h; decide
theorem xU : ∀ {f : Nat} {L : List Int} {a : List Ch} {e : Int}, gn f L a = .error e → e ≠ 0
  | 0, L, a, e, h => by rw [gn] at h; cases h; decide
  | f + 1, L, a, e, h => by
    rw [gn] at h
    split at h
    · rename_i e' he; cases h; exact Eh he
    · split at h
      · split at h
        · cases h
        · cases h; decide
      · exact xU h
theorem Kq {B : List Int} {e : Int} (h : cut B = .error e) : e ≠ 0 := by
  unfold cut at h
  split at h
  · cases h; decide
  · split at h
    · cases h; decide
    · split at h
      · exact xU h
      · cases h; decide
theorem lO {l : List Ch} (h : ∀ c ∈ l, av c.d) (k : List Int) : av (cE l k) := by
  unfold cE
  split
  · rename_i c hc; exact h c (List.mem_of_find?_eq_some hc)
  · exact jx
theorem Lz {l : List Ch} {h : Hd} {P T : List Int} (h1 : h = bj (fE l)) (h2 : P = cE l bd) (h3 : T = cE l bR) : xk l = ⟨h, P, T⟩ := by subst h1; subst h2; subst h3; rfl
end Go.aa
namespace Go.aa
open Go.aj Go.Sl
theorem La {L : List Ch} {i : Nat} {x : Ch} (h : L[i]? = some x) : cM (L.take (i + 1)) = cM (L.take i) ++ iq x := by
  rw [ns h]
  unfold cM jG
  rw [List.flatMap_append, List.append_assoc]
  simp
theorem join_le (L : List Ch) (i : Nat) : (cM (L.take i)).length ≤ (cM L).length := by
  conv => rhs; rw [← List.take_append_drop i L]
  unfold cM jG
  rw [List.flatMap_append]
  simp only [List.length_append]
  omega
theorem IB (L : List Ch) : cM (L.take 0) = fx := by unfold cM jG; simp
theorem Kx {J k d : List Int} {n s : Int} (hn : n = (d.length : Int)) (hs : s = ia k d) : J ++ [n / 16777216 % 256, n / 65536 % 256, n / 256 % 256, n % 256] ++ k ++ d ++ [s / 16777216 % 256, s / 65536 % 256, s / 256 % 256, s % 256] = J ++ iq ⟨k, d⟩ := by
  subst hn; subst hs
  unfold iq oh
  simp only [List.append_assoc]
theorem Ev (x : Ch) : (iq x).length = 4 + x.k.length + x.d.length + 4 := by
  unfold iq
  simp only [List.length_append, ya]
  omega
theorem IY (P : List Int) (W y : Nat) : c5 P W y ++ [0] ++ two ((P.drop (4 * W * y)).take (4 * W)) = c5 P W (y + 1) := by
  rw [c5, jb, List.append_assoc]; rfl
theorem Na {l : List Int} {i : Nat} (h : i < l.length) : two (l.take i) ++ [l.getD i 0 / 256, l.getD i 0 % 256] = two (l.take (i + 1)) := by
  rw [List.take_add_one]
  unfold two
  rw [List.flatMap_append]
  congr 1
  simp [h, List.getD_eq_getElem?_getD]
theorem H2 : nq [] (fk, 2) := by
  unfold nq cut
  rfl
theorem BX : Sz [0, 0, 7, 65535] 1 1 := ⟨by decide, by decide, by decide, rfl, fun x hx => by
  simp only [List.mem_cons, List.not_mem_nil, or_false] at hx
  rcases hx with rfl | rfl | rfl | rfl <;> decide⟩
end Go.aa
namespace Go.aa
open Go.aj Go.Sl
theorem Cq {P : List Int} {W H y i : Nat} (hP : P.length = 4 * W * H) (hy : y < H) (hi : i < 4 * W) : ((P.drop (4 * W * y)).take (4 * W)).length = 4 * W ∧ ((P.drop (4 * W * y)).take (4 * W)).getD i 0 = P.getD (4 * W * y + i) 0 ∧ 4 * W * y + i < P.length := by
  have : 4 * W * (y + 1) ≤ 4 * W * H := Nat.mul_le_mul_left _ hy
  rw [Nat.mul_succ] at this
  refine ⟨by rw [List.length_take, List.length_drop]; omega, ?_, by omega⟩
  rw [List.getD_eq_getElem?_getD, List.getD_eq_getElem?_getD, List.getElem?_take, if_pos hi, List.getElem?_drop]
theorem yX {P : List Int} {W H y : Nat} (s : Sz P W H) (hy : y ≤ H) : (c5 P W y).length ≤ 131328 := by
  obtain ⟨r, h⟩ := rQ P W y (H - y)
  have h2 := mL s
  rw [show y + (H - y) = H by omega] at h
  rw [h, List.length_append] at h2
  omega
def kz (P : List Int) (W y i : Nat) : List Int := c5 P W y ++ [0] ++ two (((P.drop (4 * W * y)).take (4 * W)).take i)
theorem AE (P : List Int) (W y : Nat) : c5 P W y ++ [0] = kz P W y 0 := by unfold kz; simp [two]
theorem KW {P : List Int} {W H y i : Nat} (hP : P.length = 4 * W * H) (hy : y < H) (hi : i < 4 * W) : kz P W y i ++ [P.getD (4 * W * y + i) 0 / 256, P.getD (4 * W * y + i) 0 % 256] = kz P W y (i + 1) := by
  obtain ⟨h1, h2, _⟩ := Cq hP hy hi
  unfold kz
  rw [← h2, List.append_assoc, Na (by omega)]
theorem IL {P : List Int} {W H y : Nat} (hP : P.length = 4 * W * H) (hy : y < H) : kz P W y (4 * W) = c5 P W (y + 1) := by
  unfold kz
  rw [List.take_of_length_le (Nat.le_trans (List.length_take_le _ _) (Nat.le_refl _))]
  exact IY P W y
theorem Gr {P : List Int} {W H y i : Nat} (s : Sz P W H) (hy : y ≤ H) (hi : i ≤ 4 * W) : (kz P W y i).length ≤ 140000 := by
  have h1 := yX s hy
  have h2 := s.w.2
  unfold kz
  simp only [List.length_append, yr, List.length_take, List.length_cons, List.length_nil]
  omega
theorem OU {P : List Int} {W H : Nat} (s : Sz P W H) : P.length ≤ 65536 := by
  have h1 := s.len
  have h2 := s.wh
  rw [Nat.mul_assoc] at h1
  omega
def Good (r : tt × Int) : Prop := (r.2 ≠ 0 ∧ r.1 = fk) ∨ (r.2 = 0 ∧ bN r.1.w r.1.h = 0 ∧ (r.1.dv.length : Int) = 4 * r.1.w * r.1.h)
end Go.aa
namespace Go.aa
open Go.aj Go.Sl
theorem Nv {w h : Int} {L : List Int} (hs : bN w h = 0) (hn : (L.length : Int) = 4 * w * h) (hU : nT L) : ∃ W H : Nat, w = (W : Int) ∧ h = (H : Int) ∧ Sz L W H := by
  have hd := jY hs
  obtain ⟨W, rfl⟩ : ∃ W : Nat, w = (W : Int) := ⟨w.toNat, by omega⟩
  obtain ⟨H, rfl⟩ : ∃ H : Nat, h = (H : Int) := ⟨h.toNat, by omega⟩
  refine ⟨W, H, rfl, rfl, ⟨by omega, by omega, ?_, ?_, hU⟩⟩
  · have : ((W * H : Nat) : Int) ≤ 16384 := by rw [Int.natCast_mul]; exact hd.2.2.2.2.2
    omega
  · have : (L.length : Int) = ((4 * W * H : Nat) : Int) := by rw [hn, Int.natCast_mul, Int.natCast_mul]; rfl
    omega
end Go.aa
namespace Go.Sl
abbrev I3 : Ec Int := aP 3 .i64
abbrev pN : Ec (Int × Int) := ⟨279, 2, fun x => [.int .i64 x.1, .int .i64 x.2], (0, 0), fun _ => rfl, fun _ => rfl⟩
structure Cv where
  p1 : Option Addr
  c1 : Nat
  p2 : Option Addr
  c2 : Nat
def HC (b : Nat) (ls : List Int) : ab := fun w0 h => ∃ i : Cv, True ∧ dg w0 [ao b 275 (CA [.slice i.p1 ls.length i.c1] .i64 (af.cK ls) [.slice i.p2 (af.ord ls).length i.c2, .int .i64 (af.c9 ls)]), Row pN i.p1 ls.length i.c1 (af.words ls), Row I3 i.p2 (af.ord ls).length i.c2 (af.ord ls)] h
theorem o5 {b c1 c2 : Nat} {p1 p2 : Option Addr} {ls : List Int} {ws : List (Int × Int)} {w0 : World} {h : Hp} (e : ws = af.words ls)
    (hh : dg w0 [ao b 275 (CA [.slice p1 ls.length c1] .i64 (af.cK ls) [.slice p2 (af.ord ls).length c2, .int .i64 (af.c9 ls)]), Row pN p1 ls.length c1 ws, Row I3 p2 (af.ord ls).length c2 (af.ord ls)] h) : HC b ls w0 h := by
  subst e; exact ⟨⟨p1, c1, p2, c2⟩, trivial, hh⟩
end Go.Sl
namespace Go.Sl
def RC (b : Nat) (ls : List Int) : ab := fun w0 h => ∃ i : Cv, True ∧ dg w0 [ao b 231 (CA [] .i64 (af.cK ls) [.slice i.p1 (af.ord ls).length i.c1, .slice i.p2 ls.length i.c2]), Row I3 i.p1 (af.ord ls).length i.c1 (af.ord ls), Row I3 i.p2 ls.length i.c2 ls] h
end Go.Sl
namespace Go.Sl
abbrev U5 : Ec Int := aP 5 .u8
structure Lv where
  p1 : Option Addr
  c1 : Nat
  p2 : Option Addr
  c2 : Nat
def LW (b : Nat) (B : List Int) (at_ : Nat) (out : List Int) (free : Int) : ab := fun w0 h => ∃ i : Lv, True ∧ dg w0 [ao b 236 [.slice i.p1 B.length i.c1, .slice i.p2 out.length i.c2, .int .i64 (at_ : Int), .int .i64 free], Row U5 i.p1 B.length i.c1 B, Row U5 i.p2 out.length i.c2 out] h
theorem o8 {b at_ : Nat} {p1 p2 : Option Addr} {c1 c2 : Nat} {B out : List Int} {free : Int} {w0 : World} {h : Hp}
    (hh : dg w0 [ao b 236 [.slice p1 B.length c1, .slice p2 out.length c2, .int .i64 (at_ : Int), .int .i64 free], Row U5 p1 B.length c1 B, Row U5 p2 out.length c2 out] h) : LW b B at_ out free w0 h := ⟨⟨p1, c1, p2, c2⟩, trivial, hh⟩
def WB (b : Nat) (bs : List Int) : ab := fun w0 h => ∃ i : List Int × Nat, (aj.Pk bs i.1 i.2 ∧ i.2 < 8) ∧ dg w0 [LW b [] 0 i.1 (i.2 : Int)] h
end Go.Sl
namespace Go.Sl
structure Mi where
  po : Option Addr
  co : Nat
def MS (b bl : Nat) (sz mo : Int) (li di : Value) (s : ad.St) : ab := fun w0 h => ∃ i : Mi, True ∧ dg w0 [ao b 223 [.pointer (some ⟨bl, 0, none⟩), .int .i64 sz, .int .i64 mo, .slice i.po s.out.length i.co, .bool s.ended, .int .i64 0, .int .i64 s.kind, .int .i64 (s.left : Int), .bool s.last, li, di, .int .i64 (s.ay : Int), .int .i64 (s.cx : Int)], Row U5 i.po s.out.length i.co s.out] h
theorem dr {b bl : Nat} {sz mo : Int} {li di : Value} {s : ad.St} {po : Option Addr} {co n : Nat} {w0 : World} {h : Hp} (hn : n = s.out.length)
    (hh : dg w0 [ao b 223 [.pointer (some ⟨bl, 0, none⟩), .int .i64 sz, .int .i64 mo, .slice po n co, .bool s.ended, .int .i64 0, .int .i64 s.kind, .int .i64 (s.left : Int), .bool s.last, li, di, .int .i64 (s.ay : Int), .int .i64 (s.cx : Int)], Row U5 po n co s.out] h) : MS b bl sz mo li di s w0 h := by
  subst hn; exact ⟨⟨po, co⟩, trivial, hh⟩
theorem iO {b bl : Nat} {sz mo : Int} {li di : Value} {s : ad.St} {w0 : World} {h : Hp} (hh : MS b bl sz mo li di s w0 h) : ∃ i : Mi, True ∧ dg w0 [ao b 223 [.pointer (some ⟨bl, 0, none⟩), .int .i64 sz, .int .i64 mo, .slice i.po s.out.length i.co, .bool s.ended, .int .i64 0, .int .i64 s.kind, .int .i64 (s.left : Int), .bool s.last, li, di, .int .i64 (s.ay : Int), .int .i64 (s.cx : Int)], Row U5 i.po s.out.length i.co s.out] h := hh
structure Vx where
  v3 : Value
  v4 : Value
  v5 : Value
  v6 : Value
  v7 : Value
  v8 : Value
  v9 : Value
  v10 : Value
  v11 : Value
  v12 : Value
def MX (b bl : Nat) (sz mo : Int) : ab := fun w0 h => ∃ i : Vx, True ∧ dg w0 [ao b 223 [.pointer (some ⟨bl, 0, none⟩), .int .i64 sz, .int .i64 mo, i.v3, i.v4, i.v5, i.v6, i.v7, i.v8, i.v9, i.v10, i.v11, i.v12]] h
theorem cR {b bl : Nat} {sz mo : Int} {v3 v4 v5 v6 v7 v8 v9 v10 v11 v12 : Value} {w0 : World} {h : Hp}
    (hh : dg w0 [ao b 223 [.pointer (some ⟨bl, 0, none⟩), .int .i64 sz, .int .i64 mo, v3, v4, v5, v6, v7, v8, v9, v10, v11, v12]] h) : MX b bl sz mo w0 h := ⟨⟨v3, v4, v5, v6, v7, v8, v9, v10, v11, v12⟩, trivial, hh⟩
def PE (e : Int) (ch : List PanicEntry) : Prop := (ch = ka 194 (.agg #[]) ∧ e = 2) ∨ (ch = ka 237 (.agg #[]) ∧ e = 4) ∨ (ch = ka 27 (.int .i64 e) ∧ e ≠ 0)
theorem PE.no {e : Int} (h : e ≠ 0) : PE e (ka 27 (.int .i64 e)) := .inr (.inr ⟨rfl, h⟩)
theorem PE.end_ : PE 2 (ka 194 (.agg #[])) := .inl ⟨rfl, rfl⟩
theorem PE.none_ : PE 4 (ka 237 (.agg #[])) := .inr (.inl ⟨rfl, rfl⟩)
def iE {α : Type} (E : Except Int α) (R : α → Value → List ab → Prop) (Gx : List ab) : Ending → List ab → Prop := sQ (fun v G => ∃ x, E = .ok x ∧ R x v G) (fun ch G => ∃ e, E = .error e ∧ PE e ch ∧ G = Gx)
section
variable {P : Program} {f : FuncId} {args : List Value} {Pre Gx : List ab} {α : Type} {E : Except Int α} {R : α → Value → List ab → Prop}
theorem aE.ok {x : α} (h : aE P f args Pre (iE E R Gx)) (hE : E = .ok x) : aE P f args Pre (aO (R x)) := h.mono fun e G h => by
  rcases h with ⟨v, rfl, x', h1, h2⟩ | ⟨ch, rfl, e', h1, _⟩
  · rw [hE] at h1; cases h1; exact ⟨v, rfl, h2⟩
  · rw [hE] at h1; cases h1
theorem aE.err {e : Int} (h : aE P f args Pre (iE E R Gx)) (hE : E = .error e) : aE P f args Pre (rk fun ch G => PE e ch ∧ G = Gx) := h.mono fun e' G h => by
  rcases h with ⟨v, rfl, x', h1, h2⟩ | ⟨ch, rfl, e', h1, h2⟩
  · rw [hE] at h1; cases h1
  · rw [hE] at h1; cases h1; exact ⟨ch, rfl, h2⟩
variable {C : Ctx} {Q : QT} {En : Env} {L F G : List ab} {rs : Array ResultVar} {v : Value} {ch : List PanicEntry}
theorem kG {x : α} (hE : E = .ok x) (hr : lg C rs En L v) (hR : R x v G) (hs : Sub L (G ++ F)) : ou C rs F (iE E R Gx) .ret En L := ⟨v, G, hr, .inl ⟨v, rfl, x, hE, hR⟩, hs⟩
theorem iu {x : α} (hE : E = .ok x) (hr : lg C rs En L v) (hR : R x v G) (hs : Sub L (G ++ F)) : ou C rs F (iE E R Gx) .normal En L := ⟨v, G, hr, .inl ⟨v, rfl, x, hE, hR⟩, hs⟩
theorem ev {e : Int} (hE : E = .error e) (hp : PE e ch) (hs : Sub L (Gx ++ F)) : ou C rs F (iE E R Gx) (.panic ch) En L := ⟨Gx, .inr ⟨ch, rfl, e, hE, hp, rfl⟩, hs⟩
theorem lf {e : Int} (hE : E = .error e) (hp : PE e ch) (hs : Sub L (Gx ++ F)) : ∃ G, iE E R Gx (.panicked ch) G ∧ Sub L (G ++ F) := ⟨Gx, .inr ⟨ch, rfl, e, hE, hp, rfl⟩, hs⟩
end
theorem uH {M F : List ab} : Drop (M ++ F) F := by
  induction M with
  | nil => exact .refl
  | cons a M ih => exact .skip ih
theorem vW {a0 : ab} {M F : List ab} : Drop (a0 :: (M ++ F)) F := .skip uH
end Go.Sl
namespace Go.Proofs.YtmaiakpjgomnpaaGreat
open Go.Sl
theorem V.a194 : hH Tryz.prog 194 = some 0 := by kernel_rfl
theorem V.a229 : hH Tryz.prog 229 = some 16 := by kernel_rfl
theorem V.OM : hH Tryz.prog 237 = some 0 := by kernel_rfl
theorem V.KR : hH Tryz.prog 246 = some 2 := by kernel_rfl
theorem V.Pj : hH Tryz.prog 279 = some 2 := by kernel_rfl
theorem V.oB : jP Tryz.prog 229 = some (16, 3, 1) := by kernel_rfl
theorem V.zM : jP Tryz.prog 246 = some (2, 3, 1) := by kernel_rfl
theorem V.Jc : aF Tryz.prog 103 = true := by kernel_rfl
theorem V.Lm : aF Tryz.prog 118 = true := by kernel_rfl
theorem V.Pb : aF Tryz.prog 119 = true := by kernel_rfl
theorem V.zU : aF Tryz.prog 128 = true := by kernel_rfl
theorem V.PF : aF Tryz.prog 135 = true := by kernel_rfl
theorem V.Kb : aF Tryz.prog 145 = true := by kernel_rfl
theorem V.pD : aF Tryz.prog 146 = true := by kernel_rfl
theorem V.O4 : aF Tryz.prog 147 = true := by kernel_rfl
theorem V.JA : aF Tryz.prog 148 = true := by kernel_rfl
theorem V.KA : aF Tryz.prog 149 = true := by kernel_rfl
theorem V.K6 : aF Tryz.prog 150 = true := by kernel_rfl
theorem V.PT : aF Tryz.prog 160 = true := by kernel_rfl
theorem V.I0 : aF Tryz.prog 166 = true := by kernel_rfl
theorem V.Kr : aF Tryz.prog 167 = true := by kernel_rfl
theorem V.IQ : aF Tryz.prog 168 = true := by kernel_rfl
theorem V.JH : aF Tryz.prog 169 = true := by kernel_rfl
theorem V.O7 : aF Tryz.prog 170 = true := by kernel_rfl
theorem V.Is : aF Tryz.prog 178 = true := by kernel_rfl
theorem V.tK : aF Tryz.prog 179 = true := by kernel_rfl
theorem V.Jx : aF Tryz.prog 180 = true := by kernel_rfl
theorem V.LC : aF Tryz.prog 181 = true := by kernel_rfl
theorem V.Jy : aF Tryz.prog 182 = true := by kernel_rfl
theorem V.fe : aF Tryz.prog 183 = true := by kernel_rfl
theorem V.I7 : aF Tryz.prog 195 = true := by kernel_rfl
theorem V.iJ : aF Tryz.prog 197 = true := by kernel_rfl
theorem V.Pl : aF Tryz.prog 198 = true := by kernel_rfl
theorem V.PM : aF Tryz.prog 199 = true := by kernel_rfl
theorem V.Ip : aF Tryz.prog 200 = true := by kernel_rfl
theorem V.rH : aF Tryz.prog 201 = true := by kernel_rfl
theorem V.Lx : aF Tryz.prog 202 = true := by kernel_rfl
theorem V.J9 : aF Tryz.prog 203 = true := by kernel_rfl
theorem V.OG : aF Tryz.prog 204 = true := by kernel_rfl
theorem V.Pn : aF Tryz.prog 215 = true := by kernel_rfl
theorem V.O6 : aF Tryz.prog 216 = true := by kernel_rfl
theorem V.PU : aF Tryz.prog 217 = true := by kernel_rfl
theorem V.Ot : aF Tryz.prog 218 = true := by kernel_rfl
theorem V.zG : aF Tryz.prog 220 = true := by kernel_rfl
theorem V.oH : aF Tryz.prog 221 = true := by kernel_rfl
theorem V.O9 : aF Tryz.prog 222 = true := by kernel_rfl
theorem V.KT : aF Tryz.prog 223 = true := by kernel_rfl
theorem V.O3 : aF Tryz.prog 229 = true := by kernel_rfl
theorem V.Jh : aF Tryz.prog 230 = true := by kernel_rfl
theorem V.KJ : aF Tryz.prog 245 = true := by kernel_rfl
theorem V.Af : aF Tryz.prog 246 = true := by kernel_rfl
theorem V.On : aF Tryz.prog 253 = true := by kernel_rfl
theorem V.EL : aF Tryz.prog 256 = true := by kernel_rfl
theorem V.QI : aF Tryz.prog 63 = true := by kernel_rfl
theorem V.yg : aF Tryz.prog 91 = true := by kernel_rfl
theorem V.Jl : aF Tryz.prog 92 = true := by kernel_rfl
theorem V.zI : mB Tryz.prog 194 = true := by kernel_rfl
theorem V.Db : mB Tryz.prog 237 = true := by kernel_rfl
theorem V.AH : mB Tryz.prog 27 = true := by kernel_rfl
theorem V.CG : cg Tryz.prog 156 0 = some 0 := by kernel_rfl
theorem V.wE : cg Tryz.prog 156 2 = some 2 := by kernel_rfl
theorem V.eJ : cg Tryz.prog 223 0 = some 0 := by kernel_rfl
theorem V.LG : cg Tryz.prog 223 1 = some 1 := by kernel_rfl
theorem V.tF : cg Tryz.prog 223 10 = some 10 := by kernel_rfl
theorem V.PZ : cg Tryz.prog 223 11 = some 11 := by kernel_rfl
theorem V.qO : cg Tryz.prog 223 12 = some 12 := by kernel_rfl
theorem V.AK : cg Tryz.prog 223 2 = some 2 := by kernel_rfl
theorem V.kK : cg Tryz.prog 223 3 = some 3 := by kernel_rfl
theorem V.xo : cg Tryz.prog 223 4 = some 4 := by kernel_rfl
theorem V.LF : cg Tryz.prog 223 5 = some 5 := by kernel_rfl
theorem V.QQ : cg Tryz.prog 223 6 = some 6 := by kernel_rfl
theorem V.Qc : cg Tryz.prog 223 7 = some 7 := by kernel_rfl
theorem V.Qy : cg Tryz.prog 223 8 = some 8 := by kernel_rfl
theorem V.xq : cg Tryz.prog 223 9 = some 9 := by kernel_rfl
theorem V.vr : cg Tryz.prog 236 0 = some 0 := by kernel_rfl
theorem V.QC : cg Tryz.prog 275 0 = some 0 := by kernel_rfl
theorem V.wH : cg Tryz.prog 275 1 = some 1 := by kernel_rfl
theorem V.Ji : cg Tryz.prog 275 2 = some 17 := by kernel_rfl
theorem V.QW : cg Tryz.prog 275 3 = some 18 := by kernel_rfl
theorem V.mixed : Tryz.prog.follows .mixedOrders = true := by kernel_rfl
theorem V.F7 : fJ Tryz.prog 156 = some [(0, 1), (1, 1), (2, 1), (3, 1)] := by kernel_rfl
theorem V.M6 : fJ Tryz.prog 194 = some [] := by kernel_rfl
theorem V.FH : fJ Tryz.prog 223 = some [(0, 1), (1, 1), (2, 1), (3, 1), (4, 1), (5, 1), (6, 1), (7, 1), (8, 1), (9, 1), (10, 1), (11, 1), (12, 1)] := by kernel_rfl
theorem V.Nn : fJ Tryz.prog 236 = some [(0, 4)] := by kernel_rfl
theorem V.Nr : fJ Tryz.prog 237 = some [] := by kernel_rfl
theorem V.Mt : fJ Tryz.prog 275 = some [(0, 1), (1, 16), (17, 1), (18, 1)] := by kernel_rfl
theorem V.Mp : fJ Tryz.prog 279 = some [(0, 1), (1, 1)] := by kernel_rfl
theorem V.gG : df Tryz.prog 204 = true := by kernel_rfl
theorem V.dO : df Tryz.prog 219 = true := by kernel_rfl
theorem V.ez : df Tryz.prog 22 = true := by kernel_rfl
theorem V.qy : df Tryz.prog 221 = true := by kernel_rfl
theorem V.rj : df Tryz.prog 27 = true := by kernel_rfl
theorem V.OL : df Tryz.prog 273 = true := by kernel_rfl
theorem V.s3 : df Tryz.prog 3 = true := by kernel_rfl
theorem V.s4 : df Tryz.prog 4 = true := by kernel_rfl
theorem V.kV : df Tryz.prog 47 = true := by kernel_rfl
theorem V.s5 : df Tryz.prog 5 = true := by kernel_rfl
theorem V.cy : sliceB Tryz.prog 22 = some (5, 1, 1) := by kernel_rfl
theorem V.F0 : sliceB Tryz.prog 247 = some (246, 2, 16) := by kernel_rfl
theorem V.FN : sliceB Tryz.prog 273 = some (279, 2, 16) := by kernel_rfl
theorem V.cQ : sliceB Tryz.prog 47 = some (3, 1, 8) := by kernel_rfl
theorem V.u3 : kl Tryz.prog 3 = true := by kernel_rfl
theorem V.u5 : kl Tryz.prog 5 = true := by kernel_rfl
theorem V.F5 : kl Tryz.prog 52 = true := by kernel_rfl
theorem V.nW : kl Tryz.prog 76 = true := by kernel_rfl
theorem V.z156 : dC Tryz.prog 156 = some ([.slice none 0 0, .slice none 0 0, .int .i64 0, .int .i64 0]) := by kernel_rfl
theorem V.z194 : dC Tryz.prog 194 = some ([]) := by kernel_rfl
theorem V.LA : dC Tryz.prog 223 = some ([.pointer none, .int .i64 0, .int .i64 0, .slice none 0 0, .bool false, .int .i64 0, .int .i64 0, .int .i64 0, .bool false, .pointer none, .pointer none, .int .i64 0, .int .i64 0]) := by kernel_rfl
theorem V.z236 : dC Tryz.prog 236 = some ([.slice none 0 0, .slice none 0 0, .int .i64 0, .int .i64 0]) := by kernel_rfl
theorem V.Lo : dC Tryz.prog 237 = some ([]) := by kernel_rfl
theorem V.Ez : dC Tryz.prog 246 = some ([.int .i64 0, .int .i64 0]) := by kernel_rfl
theorem V.NV : dC Tryz.prog 27 = some ([.int .i64 0]) := by kernel_rfl
theorem V.Pg : dC Tryz.prog 275 = some ([.slice none 0 0, .int .i64 0, .int .i64 0, .int .i64 0, .int .i64 0, .int .i64 0, .int .i64 0, .int .i64 0, .int .i64 0, .int .i64 0, .int .i64 0, .int .i64 0, .int .i64 0, .int .i64 0, .int .i64 0, .int .i64 0, .int .i64 0, .slice none 0 0, .int .i64 0]) := by kernel_rfl
theorem V.Jr : dC Tryz.prog 279 = some ([.int .i64 0, .int .i64 0]) := by kernel_rfl
theorem V.z3 : dC Tryz.prog 3 = some ([.int .i64 0]) := by kernel_rfl
theorem V.z5 : dC Tryz.prog 5 = some ([.int .u8 0]) := by kernel_rfl
end Go.Proofs.YtmaiakpjgomnpaaGreat
namespace Go.Proofs.YtmaiakpjgomnpaaGreat
open Go.Sl 
theorem aC : dR Tryz.prog ⟨[47], []⟩ = true := by kernel_rfl
theorem mV (p : Option Addr) (n cap : Nat) (fv : Value) (P A B C Z : List Int) (a b k0 : Int) (ha : a = P.length) (hbb : b = (P.length + A.length + B.length : Nat)) (hk0 : k0 = A.length) (hC : C.length = A.length) (hn : P.length + A.length + B.length + A.length + Z.length = n) (hn2 : n ≤ 1000000) : aE Tryz.prog 256 [.slice p n cap, .int .i64 a, .int .i64 b, .int .i64 k0, fv] [Row I3 p n cap (P ++ A ++ B ++ C ++ Z)] (aO fun v G => v = .tuple #[] ∧ G = [Row I3 p n cap (P ++ C ++ B ++ A ++ Z)]) := by
 refine au [(0, _), (1, _), (2, _), (3, _), (4, _)] Tryz.func256 rfl Tryz.ntmps256 rfl rfl ?_
 intro w0 F
 refine rT aC 6 rfl ?_
 rw [show P ++ A ++ B ++ C ++ Z = P ++ (C.take 0 ++ A.drop 0) ++ B ++ (A.take 0 ++ C.drop 0) ++ Z by simp]
 refine dX (fun (k : Nat) => [(0, .slice p n cap), (1, .int .i64 a), (2, .int .i64 b), (3, .int .i64 k0), (10, .int .i64 (k : Int))]) (fun (k : Nat) => Row I3 p n cap (P ++ (C.take k ++ A.drop k) ++ B ++ (A.take k ++ C.drop k) ++ Z) :: F) (fun (k : Nat) => k ≤ A.length) (fun (k : Nat) => A.length - k) (i1 (0) ?_ (dp ln) (sub (ar .nil) aw)) ?_
 ·exact Nat.zero_le _
 intro k
 rintro hk
 refine rL aC 8 rfl ?_
 refine aN rfl (fun h13 => ?_) (fun h13 => ?_)
 ·refine rC aC 4 rfl ?_
  refine wN [pz 0 [] [0], pz 0 [] [1], pz 0 [] [10], pz 6 [1, 2] [], pz 0 [] [0], pz 0 [] [2], pz 0 [] [10], pz 96 [5, 6] [], pz 0 [] [0], pz 0 [] [2], pz 0 [] [10], pz 1536 [9, 10] [], pz 3840 [8, 11] [], pz 7936 [12] [], pz 0 [] [0], pz 0 [] [1], pz 0 [] [10], pz 98304 [15, 16] [], pz 245760 [14, 17] [], pz 507904 [18] [], pz 1048335 [0, 3] [], pz 2096911 [20, 13] [], pz 4194303 [4, 7] [], pz 8388607 [22, 19] []] [⟨fun y => Row I3 p n cap (P ++ (C.take k ++ A.drop k) ++ B ++ (A.take k ++ C.drop k) ++ Z), none, some 21, [12, 13, 18, 19, 20]⟩, ⟨fun y => Row I3 p n cap ((P ++ (C.take k ++ A.drop k) ++ B ++ (A.take k ++ C.drop k) ++ Z).set (a + (k : Int)).toNat ((I3).g (P ++ (C.take k ++ A.drop k) ++ B ++ (A.take k ++ C.drop k) ++ Z) (b + (k : Int)))), some 21, some 23, [22]⟩, ⟨fun y => Row I3 p n cap (((P ++ (C.take k ++ A.drop k) ++ B ++ (A.take k ++ C.drop k) ++ Z).set (a + (k : Int)).toNat ((I3).g (P ++ (C.take k ++ A.drop k) ++ B ++ (A.take k ++ C.drop k) ++ Z) (b + (k : Int)))).set (b + (k : Int)).toNat ((I3).g (P ++ (C.take k ++ A.drop k) ++ B ++ (A.take k ++ C.drop k) ++ Z) (a + (k : Int)))), some 23, none, []⟩] F V.mixed ?_
  iterate 3 refine nM ?_
  refine nV (fun y hA L => dj rfl rfl wI) ?_
  iterate 3 refine nM ?_
  refine nV (fun y hA L => dj rfl rfl wI) ?_
  iterate 3 refine nM ?_
  refine nV (fun y hA L => dj rfl rfl wI) ?_
  refine nR (fun y FF hA => xI V.cQ (own an)) ?_
  refine nR (fun y FF hA => xL V.s3 (own an)) ?_
  iterate 3 refine nM ?_
  refine nV (fun y hA L => dj rfl rfl wI) ?_
  refine nR (fun y FF hA => xI V.cQ (own an)) ?_
  refine nR (fun y FF hA => xL V.s3 (own an)) ?_
  refine nR (fun y FF hA => xI V.cQ (own an)) ?_
  refine nE (fun y FF hA => du (ij (c := (I3)) (_) V.s3 rfl rfl rfl (by exact cZ) (by omega) (by omega) rfl rfl) ⟨rfl, .refl _⟩) ?_
  refine nR (fun y FF hA => xI V.cQ (own an)) ?_
  refine nE (fun y FF hA => du (ij (c := (I3)) (_) V.s3 rfl rfl rfl (by exact cZ) (by omega) (by omega) rfl rfl) ⟨rfl, .refl _⟩) ?_
  refine aU ?_
  intro y hA
  clear hA
  show ly _ _ _ _ (Row I3 p n cap (((P ++ (C.take k ++ A.drop k) ++ B ++ (A.take k ++ C.drop k) ++ Z).set (a + (k : Int)).toNat ((I3).g (P ++ (C.take k ++ A.drop k) ++ B ++ (A.take k ++ C.drop k) ++ Z) (b + (k : Int)))).set (b + (k : Int)).toNat ((I3).g (P ++ (C.take k ++ A.drop k) ++ B ++ (A.take k ++ C.drop k) ++ Z) (a + (k : Int)))) :: F)
  refine ks ?_
  refine ba ?_
  refine a7 ?_
  refine oV (aJ rfl) ?_
  refine oV (dj rfl rfl wI) ?_
  refine oV (dY rfl) ?_
  refine cB ?_
  have e1 : (a + (k : Int)).toNat = P.length + k := by omega
  have e2 : (b + (k : Int)).toNat = P.length + A.length + B.length + k := by omega
  simp only [Ec.g, e1, e2]
  rw [dq.xE (by omega) hC]
  refine j1 (k + 1) ?_ (dp ln) (sub (ar .nil) aw)
  exact ⟨by omega, by omega⟩
 ·refine rC aC 4 rfl ?_
  have hke : k = A.length := by omega
  subst hke
  rw [show P ++ (C.take A.length ++ A.drop A.length) ++ B ++ (A.take A.length ++ C.drop A.length) ++ Z = P ++ C ++ B ++ A ++ Z by rw [List.drop_length, List.take_length, ← hC, List.take_length, List.drop_length]; simp]
  exact iR fH ⟨rfl, rfl⟩ (sub (ar .nil) aw)
theorem AW (p : Option Addr) (n cap : Nat) (fv : Value) (P X Y Z : List Int) (a m b : Int) (ha : a = P.length) (hm : m = (P.length + X.length : Nat)) (hbb : b = (P.length + X.length + Y.length : Nat)) (hX : 0 < X.length) (hY : 0 < Y.length) (hn : P.length + X.length + Y.length + Z.length = n) (hn2 : n ≤ 1000000) : aE Tryz.prog 253 [.slice p n cap, .int .i64 a, .int .i64 m, .int .i64 b, fv] [Row I3 p n cap (P ++ X ++ Y ++ Z)] (aO fun v G => v = .tuple #[] ∧ G = [Row I3 p n cap (P ++ Y ++ X ++ Z)]) := by
 refine au [(0, _), (1, _), (2, _), (3, _), (4, _)] Tryz.func253 rfl Tryz.ntmps253 rfl rfl ?_
 intro w0 F
 refine Aw aC 18 rfl (by omega) ?_
 rw [show m - a = (X.length : Int) by omega, show b - m = (Y.length : Int) by omega]
 refine GR (fun (P2 : List Int) (X2 : List Int) (Y2 : List Int) (Z2 : List Int) => [(0, .slice p n cap), (2, .int .i64 m), (4, fv), (10, .int .i64 (X2.length : Int)), (11, .int .i64 (Y2.length : Int))]) (fun (P2 : List Int) (X2 : List Int) (Y2 : List Int) (Z2 : List Int) => Row I3 p n cap (P2 ++ X2 ++ Y2 ++ Z2) :: F) (fun (P2 : List Int) (X2 : List Int) (Y2 : List Int) (Z2 : List Int) => P2 ++ Y2 ++ X2 ++ Z2 = P ++ Y ++ X ++ Z ∧ m = (P2.length + X2.length : Nat) ∧ 0 < X2.length ∧ 0 < Y2.length ∧ P2.length + X2.length + Y2.length + Z2.length = n) (fun (P2 : List Int) (X2 : List Int) (Y2 : List Int) (Z2 : List Int) => X2.length + Y2.length) (i4 (P) (X) (Y) (Z) ?_ (dp ln) (sub (ar .nil) aw)) ?_
 ·exact ⟨rfl, hm, hX, hY, hn⟩
 intro P2 X2 Y2 Z2
 rintro ⟨hT, hm2, hX2, hY2, hn3⟩
 refine rL aC 8 rfl ?_
 refine aN rfl (fun h20 => ?_) (fun h20 => ?_)
 ·refine rC aC 10 rfl ?_
  refine aN rfl (fun h23 => ?_) (fun h23 => ?_)
  ·refine rC aC 1 rfl ?_
   obtain ⟨A, B, hX2, hA⟩ : ∃ A B, X2 = A ++ B ∧ A.length = Y2.length := ⟨X2.take Y2.length, X2.drop Y2.length, by simp, by simp; omega⟩
   subst hX2
   rw [← List.append_assoc P2 A B]
   refine fL aC 8 rfl (by omega) ?_
   refine ai (mV p n cap _ P2 A B Y2 Z2 _ _ _ (by omega) (by (simp only [List.length_append, List.length_nil] at *; omega)) (by omega) (by omega) (by (simp only [List.length_append, List.length_nil] at *; omega)) hn2) V.EL  rfl (ar .nil) rfl ?_
   rintro _ _ ⟨rfl, rfl⟩
   refine cS aC 9 rfl (by omega) ?_
   (rw [show (((A ++ B).length : Nat) : Int) - (Y2.length : Int) = (B.length : Int) by simp only [List.length_append]; omega, show (Y2.length : Int) = (A.length : Int) by omega]; simp only [List.length_append] at *; exact j4 (y0 := P2 ++ Y2) (y1 := B) (y2 := A) (y3 := Z2) ⟨⟨by rw [← hT]; simp, by simp only [List.length_append]; omega, by omega, by omega, by simp only [List.length_append]; omega⟩, by omega⟩ (dp ln) (sub (ar .nil) aw))
  ·refine rC aC 1 rfl ?_
   obtain ⟨B, C2, hY2, hC2⟩ : ∃ B C2, Y2 = B ++ C2 ∧ C2.length = X2.length := ⟨Y2.take (Y2.length - X2.length), Y2.drop (Y2.length - X2.length), by simp, by simp; omega⟩
   subst hY2
   rw [← List.append_assoc (P2 ++ X2) B C2]
   refine fL aC 12 rfl (by omega) ?_
   refine ai (mV p n cap _ P2 X2 B C2 Z2 _ _ _ (by omega) (by (simp only [List.length_append, List.length_nil] at *; omega)) (by omega) (by omega) (by (simp only [List.length_append, List.length_nil] at *; omega)) hn2) V.EL  rfl (ar .nil) rfl ?_
   rintro _ _ ⟨rfl, rfl⟩
   refine cS aC 9 rfl (by omega) ?_
   (rw [show (((B ++ C2).length : Nat) : Int) - (X2.length : Int) = (B.length : Int) by simp only [List.length_append]; omega, show (X2.length : Int) = (C2.length : Int) by omega, List.append_assoc (P2 ++ C2 ++ B) X2 Z2]; simp only [List.length_append] at *; exact j4 (y0 := P2) (y1 := C2) (y2 := B) (y3 := X2 ++ Z2) ⟨⟨by rw [← hT]; simp, by omega, by omega, by omega, by simp only [List.length_append]; omega⟩, by omega⟩ (dp ln) (sub (ar .nil) aw))
 ·refine rC aC 5 rfl ?_
  rw [show P2 ++ X2 ++ Y2 ++ Z2 = P2 ++ X2 ++ [] ++ Y2 ++ Z2 by simp]
  refine fL aC 8 rfl (by omega) ?_
  refine ai (mV p n cap _ P2 X2 [] Y2 Z2 _ _ _ (by omega) (by omega) (by omega) (by omega) (by (simp only [List.length_append, List.length_nil] at *; omega)) hn2) V.EL  rfl (ar .nil) rfl ?_
  rintro _ _ ⟨rfl, rfl⟩
  refine cB ?_
  rw [show P2 ++ Y2 ++ [] ++ X2 ++ Z2 = P ++ Y ++ X ++ Z by rw [List.append_nil]; exact hT]
  exact iR fH ⟨rfl, rfl⟩ (sub (ar .nil) aw)
set_option maxHeartbeats 4000000 in
theorem pO (p : Option Addr) (n cap : Nat) (cf : Nat) (fs cs : List Value) (S : ab) (key : Int → Int) (Pd : Int → Prop) (hb : aF Tryz.prog cf = true) (hf : ∀ x y, Pd x → Pd y → aE Tryz.prog cf (fs ++ [.int .i64 x, .int .i64 y] ++ cs) [S] (aO fun v G => v = .int .i64 (mn (key x) (key y)) ∧ G = [S])) (l : List Int) (aI bI : Int) (a b : Nat) (ha : aI = a) (hbI : bI = b) (hab : a ≤ b) (hbn : b ≤ n) (hn2 : n ≤ 1000000) (hpd : ∀ i, i < n → Pd (l.getD i I3.d)) : aE Tryz.prog 245 [.slice p n cap, .int .i64 aI, .int .i64 bI, .func (.func cf) fs.toArray cs.toArray] [Row I3 p n cap (l), S] (aO fun v G => v = .tuple #[] ∧ ∃ l2, dq.Rl key I3.d l l2 a b ∧ dq.Sd key I3.d l2 a b ∧ G = [Row I3 p n cap (l2), S]) := by
 refine au [(0, _), (1, _), (2, _), (3, _)] Tryz.func245 rfl Tryz.ntmps245 rfl rfl ?_
 intro w0 F
 refine FG (own an) (fun hlen => ?_)
 refine Aw aC 8 rfl (by omega) ?_
 rw [show aI + 1 = ((a + 1 : Nat) : Int) by omega]
 refine ik (fun (i : Nat) (l1 : List Int) => [(0, .slice p n cap), (1, .int .i64 aI), (2, .int .i64 bI), (3, .func (.func cf) fs.toArray cs.toArray), (8, .int .i64 (i : Int))]) (fun (i : Nat) (l1 : List Int) => Row I3 p n cap (l1) :: S :: F) (fun (i : Nat) (l1 : List Int) => a + 1 ≤ i ∧ (i ≤ b ∨ i = a + 1) ∧ dq.Rl key I3.d l l1 a b ∧ dq.Sd key I3.d l1 a i) (fun (i : Nat) (l1 : List Int) => b - i) (i2 (a + 1) (_) ?_ (dp ln) (sub (bD .nil) aw)) ?_
 ·exact ⟨Nat.le_refl _, .inr rfl, dq.Rl.refl _ _ _, dq.Sd.small (Nat.le_refl _)⟩
 intro i l1
 rintro ⟨hi1, hi2, hR1, hS1⟩
 refine rL aC 8 rfl ?_
 refine aN rfl (fun h14 => ?_) (fun h14 => ?_)
 ·refine rC aC 11 rfl ?_
  refine ik (fun (j : Nat) (l2 : List Int) => [(0, .slice p n cap), (1, .int .i64 aI), (2, .int .i64 bI), (3, .func (.func cf) fs.toArray cs.toArray), (8, .int .i64 (i : Int)), (9, .int .i64 (j : Int))]) (fun (j : Nat) (l2 : List Int) => Row I3 p n cap (l2) :: S :: F) (fun (j : Nat) (l2 : List Int) => a ≤ j ∧ j ≤ i ∧ dq.Rl key I3.d l l2 a b ∧ dq.Ins key I3.d l2 a j i) (fun (j : Nat) (l2 : List Int) => j) (i2 (i) (_) ?_ (kJ (dp ln)) (sub (bD .nil) aw)) ?_
  ·exact ⟨by omega, Nat.le_refl _, hR1, dq.Ins.start hS1⟩
  intro j l2
  rintro ⟨hj1, hj2, hR2, hI2⟩
  refine rL aC 2 rfl ?_
  have hpd2 := hR2.pd (Pd := Pd) hbn hpd
  have hlen2 := hR2.len
  by_cases h20 : aI < (j : Int)
  ·refine wN [pz 0 [] [9], pz 0 [] [1], pz 3 [0, 1] [], pz 7 [2] [], pz 15 [3] [3], pz 15 [3] [0], pz 15 [3] [9], pz 111 [5, 6, 3] [], pz 239 [7, 3] [], pz 15 [3] [0], pz 15 [3] [9], pz 1039 [10, 3] [], pz 3599 [9, 11, 3] [], pz 7695 [12, 3] [], pz 16383 [4, 8, 13, 3] [], pz 32767 [14, 3] [], pz 65535 [3, 15] []] [⟨fun y => Row I3 p n cap (l2), none, none, [7, 8, 12, 13]⟩, ⟨fun y => S, none, some 14, []⟩, ⟨fun y => S, some 14, none, []⟩] F V.mixed ?_
   iterate 2 refine nM ?_
   refine nV (fun y hA L => aY (a8 rfl rfl) h20) ?_
   refine nM ?_
   refine bQ _ (fun y => rfl) rfl rfl rfl (fun y hA L => eU rfl (du (aJ rfl) ⟨rfl, rfl⟩)) (by intros; rfl) (by intro y y2 h; rfl) ?_
   refine bQ _ (fun y => rfl) rfl rfl rfl (fun y hA L => eU rfl (du (aJ rfl) ⟨rfl, rfl⟩)) (by intros; rfl) (by intro y y2 h; rfl) ?_
   refine bQ _ (fun y => rfl) rfl rfl rfl (fun y hA L => eU rfl (du (aJ rfl) ⟨rfl, rfl⟩)) (by intros; rfl) (by intro y y2 h; rfl) ?_
   refine jJ _ _ (fun y => rfl) rfl (fun y => rfl) rfl (fun y FF hA => eU rfl (du (xI V.cQ (own an)) ⟨rfl, rfl⟩)) (by intros; rfl) (by intro y y2 h; rfl) ?_
   refine jJ _ _ (fun y => rfl) rfl (fun y => rfl) rfl (fun y FF hA => eU rfl (du (xL V.s3 (own an)) ⟨rfl, rfl⟩)) (by intros; rfl) (by intro y y2 h; rfl) ?_
   refine bQ _ (fun y => rfl) rfl rfl rfl (fun y hA L => eU rfl (du (aJ rfl) ⟨rfl, rfl⟩)) (by intros; rfl) (by intro y y2 h; rfl) ?_
   refine bQ _ (fun y => rfl) rfl rfl rfl (fun y hA L => eU rfl (du (aJ rfl) ⟨rfl, rfl⟩)) (by intros; rfl) (by intro y y2 h; rfl) ?_
   refine bQ _ (fun y => rfl) rfl rfl rfl (fun y hA L => eU rfl (du (gh rfl rfl wI) ⟨rfl, rfl⟩)) (by intros; rfl) (by intro y y2 h; rfl) ?_
   refine jJ _ _ (fun y => rfl) rfl (fun y => rfl) rfl (fun y FF hA => eU rfl (du (xI V.cQ (own an)) ⟨rfl, rfl⟩)) (by intros; rfl) (by intro y y2 h; rfl) ?_
   refine jJ _ _ (fun y => rfl) rfl (fun y => rfl) rfl (fun y FF hA => eU rfl (du (xL V.s3 (own an)) ⟨rfl, rfl⟩)) (by intros; rfl) (by intro y y2 h; rfl) ?_
   refine nE (fun y FF hA => eU rfl (k5 (fs := fs) (cs := cs) (Post := [S]) (hf (I3.g l2 (j : Int)) (I3.g l2 ((j : Int) - 1)) (gP (k := j) (by omega) (hpd2 _ (by omega))) (gP (k := j - 1) (by omega) (hpd2 _ (by omega)))) hb rfl rfl (ar .nil) (fun v G h => by rcases h with ⟨rfl, rfl⟩; exact ⟨rfl, .refl _⟩))) ?_
   refine bQ _ (fun y => rfl) rfl rfl rfl (fun y hA L => eU rfl (du (bo rfl rfl) ⟨rfl, rfl⟩)) (by intros; rfl) (by intro y y2 h; rfl) ?_
   refine nV (fun y hA L => lJ rfl rfl) ?_
   refine aU ?_
   intro y hA
   clear hA
   refine ba ?_
   refine bZ _ (.cons (d := 0) rfl (.cons (d := 1) rfl (.cons (d := 2) rfl (.cons (d := 3) rfl (.cons (d := 8) rfl (.cons (d := 9) rfl (.cons (d := 34) rfl (.nil _)))))))) ?_
   refine bP (M := Row I3 p n cap (l2) :: S :: F) (fun _ _ h => h) ?_
   refine aN rfl (fun h34 => ?_) (fun h34 => ?_)
   ·refine rC aC 4 rfl ?_
    refine wN [pz 0 [] [0], pz 0 [] [9], pz 0 [] [0], pz 0 [] [9], pz 8 [3] [], pz 0 [] [0], pz 0 [] [9], pz 64 [6] [], pz 224 [5, 7] [], pz 480 [8] [], pz 0 [] [0], pz 0 [] [9], pz 3072 [10, 11] [], pz 7168 [12] [], pz 16355 [0, 1] [], pz 32739 [14, 9] [], pz 65535 [2, 4] [], pz 131071 [16, 13] []] [⟨fun y => Row I3 p n cap (l2), none, some 15, [8, 9, 12, 13, 14]⟩, ⟨fun y => S, none, none, []⟩, ⟨fun y => Row I3 p n cap ((l2).set (j : Int).toNat ((I3).g (l2) ((j : Int) - 1))), some 15, some 17, [16]⟩, ⟨fun y => Row I3 p n cap (((l2).set (j : Int).toNat ((I3).g (l2) ((j : Int) - 1))).set ((j : Int) - 1).toNat ((I3).g (l2) (j : Int))), some 17, none, []⟩] F V.mixed ?_
    iterate 4 refine nM ?_
    refine nV (fun y hA L => gh rfl rfl wI) ?_
    iterate 2 refine nM ?_
    refine nV (fun y hA L => gh rfl rfl wI) ?_
    refine nR (fun y FF hA => xI V.cQ (own an)) ?_
    refine nR (fun y FF hA => xL V.s3 (own an)) ?_
    iterate 2 refine nM ?_
    refine nR (fun y FF hA => xI V.cQ (own an)) ?_
    refine nR (fun y FF hA => xL V.s3 (own an)) ?_
    refine nR (fun y FF hA => xI V.cQ (own an)) ?_
    refine nE (fun y FF hA => du (ij (c := (I3)) (_) V.s3 rfl rfl rfl (by exact cZ) (by omega) (by omega) rfl rfl) ⟨rfl, .refl _⟩) ?_
    refine nR (fun y FF hA => xI V.cQ (own an)) ?_
    refine nE (fun y FF hA => du (ij (c := (I3)) (_) V.s3 rfl rfl rfl (by exact cZ) (by omega) (by omega) rfl rfl) ⟨rfl, .refl _⟩) ?_
    refine aU ?_
    intro y hA
    clear hA
    show ly _ _ _ _ (S :: Row I3 p n cap (((l2).set (j : Int).toNat ((I3).g (l2) ((j : Int) - 1))).set ((j : Int) - 1).toNat ((I3).g (l2) (j : Int))) :: F)
    refine ks ?_
    refine ba ?_
    refine a7 ?_
    refine oV (aJ rfl) ?_
    refine oV (gh rfl rfl wI) ?_
    refine oV (dY rfl) ?_
    refine cB ?_
    have hlt := kh.1 h34
    rw [gE j (by omega), gE (j - 1) (by omega)] at hlt
    have e1 : ((j : Int) - 1).toNat = j - 1 := by omega
    have e0 : (j : Int).toNat = j := by omega
    simp only [Ec.g, e1, e0]
    rw [show (j : Int) - 1 = ((j - 1 : Nat) : Int) by omega]
    exact j2 (j - 1) _ ⟨⟨by omega, by omega, hR2.trans (dq.Rl.Fk (by omega) (by omega) (by omega) hlt), hI2.step (by omega) hj2 (by omega) hlt⟩, by omega⟩ (kJ (dp ln)) (sub (.cons az (ar .nil)) aw)
   ·refine fL aC 11 rfl (by omega) ?_
    exact j2 (i + 1) _ ⟨⟨by omega, by omega, hR2, hI2.fin hj1 (.inr (by have h := Int.not_lt.1 (fun h => h34 (kh.2 h)); rw [gE (j - 1) (by omega), gE j (by omega)] at h; exact h))⟩, by omega⟩ (dp ln) (sub (bD .nil) aw)
  ·refine wN [pz 0 [] [9], pz 0 [] [1], pz 3 [0, 1] [], pz 7 [2] [], pz 15 [3] [3], pz 15 [3] [0], pz 15 [3] [9], pz 111 [5, 6, 3] [], pz 239 [7, 3] [], pz 15 [3] [0], pz 15 [3] [9], pz 1039 [10, 3] [], pz 3599 [9, 11, 3] [], pz 7695 [12, 3] [], pz 16383 [4, 8, 13, 3] [], pz 32767 [14, 3] [], pz 65535 [3, 15] []] [⟨fun y => Row I3 p n cap (l2), none, none, []⟩, ⟨fun y => S, none, none, []⟩] F V.mixed ?_
   iterate 2 refine nM ?_
   refine nV (fun y hA L => aA (a8 rfl rfl) h20) ?_
   refine nM ?_
   refine bQ _ (fun y => rfl) rfl rfl rfl (fun y hA L => eV rfl rfl ⟨rfl, rfl⟩) (by intros; rfl) (by intro y y2 h; rfl) ?_
   refine bQ _ (fun y => rfl) rfl rfl rfl (fun y hA L => eV rfl rfl ⟨rfl, rfl⟩) (by intros; rfl) (by intro y y2 h; rfl) ?_
   refine bQ _ (fun y => rfl) rfl rfl rfl (fun y hA L => eV rfl rfl ⟨rfl, rfl⟩) (by intros; rfl) (by intro y y2 h; rfl) ?_
   refine bQ _ (fun y => rfl) rfl rfl rfl (fun y hA L => eV rfl rfl ⟨rfl, rfl⟩) (by intros; rfl) (by intro y y2 h; rfl) ?_
   refine bQ _ (fun y => rfl) rfl rfl rfl (fun y hA L => eV rfl rfl ⟨rfl, rfl⟩) (by intros; rfl) (by intro y y2 h; rfl) ?_
   refine bQ _ (fun y => rfl) rfl rfl rfl (fun y hA L => eV rfl rfl ⟨rfl, rfl⟩) (by intros; rfl) (by intro y y2 h; rfl) ?_
   refine bQ _ (fun y => rfl) rfl rfl rfl (fun y hA L => eV rfl rfl ⟨rfl, rfl⟩) (by intros; rfl) (by intro y y2 h; rfl) ?_
   refine bQ _ (fun y => rfl) rfl rfl rfl (fun y hA L => eV rfl rfl ⟨rfl, rfl⟩) (by intros; rfl) (by intro y y2 h; rfl) ?_
   refine bQ _ (fun y => rfl) rfl rfl rfl (fun y hA L => eV rfl rfl ⟨rfl, rfl⟩) (by intros; rfl) (by intro y y2 h; rfl) ?_
   refine bQ _ (fun y => rfl) rfl rfl rfl (fun y hA L => eV rfl rfl ⟨rfl, rfl⟩) (by intros; rfl) (by intro y y2 h; rfl) ?_
   refine bQ _ (fun y => rfl) rfl rfl rfl (fun y hA L => eV rfl rfl ⟨rfl, rfl⟩) (by intros; rfl) (by intro y y2 h; rfl) ?_
   refine bQ _ (fun y => rfl) rfl rfl rfl (fun y hA L => eV rfl rfl ⟨rfl, rfl⟩) (by intros; rfl) (by intro y y2 h; rfl) ?_
   refine nV (fun y hA L => oq rfl rfl) ?_
   refine aU ?_
   intro y hA
   clear hA
   refine ba ?_
   refine bZ _ (.cons (d := 0) rfl (.cons (d := 1) rfl (.cons (d := 2) rfl (.cons (d := 3) rfl (.cons (d := 8) rfl (.cons (d := 9) rfl (.cons (d := 34) rfl (.nil _)))))))) ?_
   refine bP (M := Row I3 p n cap (l2) :: S :: F) (fun _ _ h => h) ?_
   refine fL aC 12 rfl (by omega) ?_
   exact j2 (i + 1) _ ⟨⟨by omega, by omega, hR2, hI2.fin hj1 (.inl (by omega))⟩, by omega⟩ (dp ln) (sub (bD .nil) aw)
 ·refine rC aC 4 rfl ?_
  exact iR fH ⟨rfl, l1, hR1, hS1.sub (Nat.le_refl _) (by omega), rfl⟩ (sub (bD .nil) aw)
set_option maxHeartbeats 16000000 in
theorem CF (p : Option Addr) (n cap : Nat) (cf : Nat) (fs cs : List Value) (S : ab) (key : Int → Int) (Pd : Int → Prop) (hb : aF Tryz.prog cf = true) (hf : ∀ x y, Pd x → Pd y → aE Tryz.prog cf (fs ++ [.int .i64 x, .int .i64 y] ++ cs) [S] (aO fun v G => v = .int .i64 (mn (key x) (key y)) ∧ G = [S])) (l : List Int) (a m b : Nat) (ham : a < m) (hmb : m < b) (hbn : b ≤ n) (hn2 : n ≤ 1000000) (hpd : ∀ i, i < n → Pd (l.getD i I3.d)) (h1 : dq.Sd key I3.d l a m) (h2 : dq.Sd key I3.d l m b) (ih : ∀ (l : List Int) (a2 m2 b2 : Nat), b2 - a2 < b - a → a2 < m2 → m2 < b2 → b2 ≤ n → (∀ i, i < n → Pd (l.getD i I3.d)) → dq.Sd key I3.d l a2 m2 → dq.Sd key I3.d l m2 b2 → aE Tryz.prog 246 [.slice p n cap, .int .i64 (a2 : Int), .int .i64 (m2 : Int), .int .i64 (b2 : Int), .func (.func cf) fs.toArray cs.toArray] [Row I3 p n cap (l), S] (aO fun v G => v = .tuple #[] ∧ ∃ l2, dq.Rl key I3.d l l2 a2 b2 ∧ dq.Sd key I3.d l2 a2 b2 ∧ G = [Row I3 p n cap (l2), S])) : aE Tryz.prog 246 [.slice p n cap, .int .i64 (a : Int), .int .i64 (m : Int), .int .i64 (b : Int), .func (.func cf) fs.toArray cs.toArray] [Row I3 p n cap (l), S] (aO fun v G => v = .tuple #[] ∧ ∃ l2, dq.Rl key I3.d l l2 a b ∧ dq.Sd key I3.d l2 a b ∧ G = [Row I3 p n cap (l2), S]) := by
 refine au [(0, _), (1, _), (2, _), (3, _), (4, _)] Tryz.func246 rfl Tryz.ntmps246 rfl rfl ?_
 intro w0 F
 refine FG (own an) (fun hlen => ?_)
 refine Aw aC 9 rfl (by omega) ?_
 refine aN rfl (fun h28 => ?_) (fun h28 => ?_)
 ·refine rC aC 14 rfl ?_
  refine ik (fun (i : Nat) (j : Nat) => [(0, .slice p n cap), (1, .int .i64 (a : Int)), (4, .func (.func cf) fs.toArray cs.toArray), (10, .int .i64 (i : Int)), (11, .int .i64 (j : Int))]) (fun (i : Nat) (j : Nat) => Row I3 p n cap (l) :: S :: F) (fun (i : Nat) (j : Nat) => m ≤ i ∧ i ≤ j ∧ j ≤ b ∧ (∀ x, m ≤ x → x < i → key (l.getD x I3.d) < key (l.getD a I3.d)) ∧ (∀ x, j ≤ x → x < b → key (l.getD a I3.d) ≤ key (l.getD x I3.d))) (fun (i : Nat) (j : Nat) => j - i) (i2 (m) (b) ?_ (dp ln) (sub (bD .nil) aw)) ?_
  ·exact ⟨Nat.le_refl _, by omega, Nat.le_refl _, fun x x1 x2 => by omega, fun x x1 x2 => by omega⟩
  intro i j
  rintro ⟨hi1, hij, hj1, hlo, hhi⟩
  refine rL aC 8 rfl ?_
  refine aN rfl (fun h33 => ?_) (fun h33 => ?_)
  ·refine fL aC 8 rfl (by omega) ?_
   refine oV (bC V.u3 Tryz.underlying52 rfl (sr (by omega) (by omega))) ?_
   refine oV (eg rfl rfl (by decide) (zD (by omega))) ?_
   refine oV (bC V.F5 Tryz.underlying3 rfl wI) ?_
   refine oV (dY rfl) ?_
   obtain ⟨h, hhh⟩ : ∃ h : Nat, h = (i + j) / 2 := ⟨_, rfl⟩
   rw [show ((i : Int) + (j : Int)) / 2 = ((h : Nat) : Int) by omega]
   refine rO aC 3 rfl ?_
   refine wN [pz 0 [] [4], pz 0 [] [0], pz 0 [] [12], pz 6 [1, 2] [], pz 14 [3] [], pz 0 [] [0], pz 0 [] [1], pz 96 [5, 6] [], pz 224 [7] [], pz 511 [0, 4, 8] [], pz 1023 [9] []] [⟨fun y => Row I3 p n cap (l), none, none, [3, 4, 7, 8]⟩, ⟨fun y => S, none, some 9, []⟩, ⟨fun y => S, some 9, none, []⟩] F V.mixed ?_
   iterate 3 refine nM ?_
   refine nR (fun y FF hA => xI V.cQ (own an)) ?_
   refine nR (fun y FF hA => xL V.s3 (own an)) ?_
   iterate 2 refine nM ?_
   refine nR (fun y FF hA => xI V.cQ (own an)) ?_
   refine nR (fun y FF hA => xL V.s3 (own an)) ?_
   refine nE (fun y FF hA => k5 (fs := fs) (cs := cs) (Post := [S]) (hf (I3.g l (h : Int)) (I3.g l (a : Int)) (gP (k := h) (by omega) (hpd _ (by omega))) (gP (k := a) (by omega) (hpd _ (by omega)))) hb rfl rfl (ar .nil) (fun v G h => by rcases h with ⟨rfl, rfl⟩; exact ⟨rfl, .refl _⟩)) ?_
   refine nV (fun y hA L => bo rfl rfl) ?_
   refine aU ?_
   intro y hA
   clear hA
   refine ba ?_
   refine bZ _ (.cons (d := 0) rfl (.cons (d := 1) rfl (.cons (d := 4) rfl (.cons (d := 10) rfl (.cons (d := 11) rfl (.cons (d := 12) rfl (.cons (d := 50) rfl (.nil _)))))))) ?_
   refine bP (M := Row I3 p n cap (l) :: S :: F) (fun _ _ h => h) ?_
   refine aN rfl (fun h50 => ?_) (fun h50 => ?_)
   ·refine fL aC 6 rfl (by omega) ?_
    exact j2 (h + 1) j ⟨⟨by omega, by omega, by omega, dq.Ms h2 (by omega) (by omega) (by have q := kh.1 h50; rw [gE (h) (by omega), gE (a) (by omega)] at q; exact q), hhi⟩, by omega⟩ (dp ln) (sub (bD .nil) aw)
   ·refine rC aC 5 rfl ?_
    exact j2 i h ⟨⟨by omega, by omega, by omega, hlo, dq.MN h2 (by omega) (by omega) (by have q := Int.not_lt.1 (fun z => h50 (kh.2 z)); rw [gE (a) (by omega), gE (h) (by omega)] at q; exact q)⟩, by omega⟩ (dp ln) (sub (bD .nil) aw)
  ·refine rC aC 7 rfl ?_
   have hij : i = j := by omega
   subst hij
   have hma : m = a + 1 := by omega
   subst hma
   refine rC aC 6 rfl ?_
   refine ik (fun (k : Nat) (l2 : List Int) => [(0, .slice p n cap), (10, .int .i64 (i : Int)), (13, .int .i64 (k : Int))]) (fun (k : Nat) (l2 : List Int) => Row I3 p n cap (l2) :: S :: F) (fun (k : Nat) (l2 : List Int) => a ≤ k ∧ k ≤ i - 1 ∧ dq.Mv key I3.d l l2 a b k) (fun (k : Nat) (l2 : List Int) => i - k) (i2 (a) (l) ?_ (jg ln) (sub (bD .nil) aw)) ?_
   ·exact ⟨Nat.le_refl _, by omega, dq.Mv.start _ _ _⟩
   intro k l2
   rintro ⟨hk1, hk2, hMv⟩
   refine Ob aC 9 rfl (by omega) ?_
   refine aN rfl (fun h58 => ?_) (fun h58 => ?_)
   ·refine rC aC 4 rfl ?_
    refine wN [pz 0 [] [0], pz 0 [] [13], pz 0 [] [0], pz 0 [] [13], pz 8 [3] [], pz 0 [] [0], pz 0 [] [13], pz 64 [6] [], pz 224 [5, 7] [], pz 480 [8] [], pz 0 [] [0], pz 0 [] [13], pz 3072 [10, 11] [], pz 7168 [12] [], pz 16355 [0, 1] [], pz 32739 [14, 9] [], pz 65535 [2, 4] [], pz 131071 [16, 13] []] [⟨fun y => Row I3 p n cap (l2), none, some 15, [8, 9, 12, 13, 14]⟩, ⟨fun y => S, none, none, []⟩, ⟨fun y => Row I3 p n cap ((l2).set (k : Int).toNat ((I3).g (l2) ((k : Int) + 1))), some 15, some 17, [16]⟩, ⟨fun y => Row I3 p n cap (((l2).set (k : Int).toNat ((I3).g (l2) ((k : Int) + 1))).set ((k : Int) + 1).toNat ((I3).g (l2) (k : Int))), some 17, none, []⟩] F V.mixed ?_
    iterate 4 refine nM ?_
    refine nV (fun y hA L => dj rfl rfl wI) ?_
    iterate 2 refine nM ?_
    refine nV (fun y hA L => dj rfl rfl wI) ?_
    refine nR (fun y FF hA => xI V.cQ (own an)) ?_
    refine nR (fun y FF hA => xL V.s3 (own an)) ?_
    iterate 2 refine nM ?_
    refine nR (fun y FF hA => xI V.cQ (own an)) ?_
    refine nR (fun y FF hA => xL V.s3 (own an)) ?_
    refine nR (fun y FF hA => xI V.cQ (own an)) ?_
    refine nE (fun y FF hA => du (ij (c := (I3)) (_) V.s3 rfl rfl rfl (by exact cZ) (by omega) (by omega) rfl rfl) ⟨rfl, .refl _⟩) ?_
    refine nR (fun y FF hA => xI V.cQ (own an)) ?_
    refine nE (fun y FF hA => du (ij (c := (I3)) (_) V.s3 rfl rfl rfl (by exact cZ) (by omega) (by omega) rfl rfl) ⟨rfl, .refl _⟩) ?_
    refine aU ?_
    intro y hA
    clear hA
    show ly _ _ _ _ (S :: Row I3 p n cap (((l2).set (k : Int).toNat ((I3).g (l2) ((k : Int) + 1))).set ((k : Int) + 1).toNat ((I3).g (l2) (k : Int))) :: F)
    refine ks ?_
    refine ba ?_
    refine a7 ?_
    refine oV (aJ rfl) ?_
    refine oV (dj rfl rfl wI) ?_
    refine oV (dY rfl) ?_
    refine cB ?_
    have hlen2 := hMv.rl.len
    have e1 : ((k : Int) + 1).toNat = k + 1 := by omega
    have e0 : (k : Int).toNat = k := by omega
    simp only [Ec.g, e1, e0]
    exact j2 (k + 1) _ ⟨⟨by omega, by omega, hMv.step (by omega) (by omega) (by omega) (hlo _ (by omega) (by omega))⟩, by omega⟩ (jg ln) (sub (.cons az (ar .nil)) aw)
   ·refine rC aC 7 rfl ?_
    have hke : k = i - 1 := by omega
    subst hke
    exact ak fH ⟨rfl, l2, hMv.rl, hMv.fin (by omega) (by omega) h2 hlo hhi, rfl⟩ (sub (bD .nil) aw)
 ·refine fL aC 11 rfl (by omega) ?_
  refine aN rfl (fun h80 => ?_) (fun h80 => ?_)
  ·refine rC aC 14 rfl ?_
   refine ik (fun (i : Nat) (j : Nat) => [(0, .slice p n cap), (2, .int .i64 (m : Int)), (4, .func (.func cf) fs.toArray cs.toArray), (14, .int .i64 (i : Int)), (15, .int .i64 (j : Int))]) (fun (i : Nat) (j : Nat) => Row I3 p n cap (l) :: S :: F) (fun (i : Nat) (j : Nat) => a ≤ i ∧ i ≤ j ∧ j ≤ m ∧ (∀ x, a ≤ x → x < i → key (l.getD x I3.d) ≤ key (l.getD m I3.d)) ∧ (∀ x, j ≤ x → x < m → key (l.getD m I3.d) < key (l.getD x I3.d))) (fun (i : Nat) (j : Nat) => j - i) (i2 (a) (m) ?_ (dp ln) (sub (bD .nil) aw)) ?_
   ·exact ⟨Nat.le_refl _, by omega, Nat.le_refl _, fun x x1 x2 => by omega, fun x x1 x2 => by omega⟩
   intro i j
   rintro ⟨hi1, hij, hj1, hlo, hhi⟩
   refine rL aC 8 rfl ?_
   refine aN rfl (fun h85 => ?_) (fun h85 => ?_)
   ·refine fL aC 8 rfl (by omega) ?_
    refine oV (bC V.u3 Tryz.underlying52 rfl (sr (by omega) (by omega))) ?_
    refine oV (eg rfl rfl (by decide) (zD (by omega))) ?_
    refine oV (bC V.F5 Tryz.underlying3 rfl wI) ?_
    refine oV (dY rfl) ?_
    obtain ⟨h, hhh⟩ : ∃ h : Nat, h = (i + j) / 2 := ⟨_, rfl⟩
    rw [show ((i : Int) + (j : Int)) / 2 = ((h : Nat) : Int) by omega]
    refine rO aC 3 rfl ?_
    refine wN [pz 0 [] [4], pz 0 [] [0], pz 0 [] [2], pz 6 [1, 2] [], pz 14 [3] [], pz 0 [] [0], pz 0 [] [16], pz 96 [5, 6] [], pz 224 [7] [], pz 511 [0, 4, 8] [], pz 1023 [9] [], pz 2047 [10] []] [⟨fun y => Row I3 p n cap (l), none, none, [3, 4, 7, 8]⟩, ⟨fun y => S, none, some 9, []⟩, ⟨fun y => S, some 9, none, []⟩] F V.mixed ?_
    iterate 3 refine nM ?_
    refine nR (fun y FF hA => xI V.cQ (own an)) ?_
    refine nR (fun y FF hA => xL V.s3 (own an)) ?_
    iterate 2 refine nM ?_
    refine nR (fun y FF hA => xI V.cQ (own an)) ?_
    refine nR (fun y FF hA => xL V.s3 (own an)) ?_
    refine nE (fun y FF hA => k5 (fs := fs) (cs := cs) (Post := [S]) (hf (I3.g l (m : Int)) (I3.g l (h : Int)) (gP (k := m) (by omega) (hpd _ (by omega))) (gP (k := h) (by omega) (hpd _ (by omega)))) hb rfl rfl (ar .nil) (fun v G h => by rcases h with ⟨rfl, rfl⟩; exact ⟨rfl, .refl _⟩)) ?_
    refine nV (fun y hA L => bo rfl rfl) ?_
    refine nV (fun y hA L => Bv rfl) ?_
    refine aU ?_
    intro y hA
    clear hA
    refine ba ?_
    refine bZ _ (.cons (d := 0) rfl (.cons (d := 2) rfl (.cons (d := 4) rfl (.cons (d := 14) rfl (.cons (d := 15) rfl (.cons (d := 16) rfl (.cons (d := 103) rfl (.nil _)))))))) ?_
    refine bP (M := Row I3 p n cap (l) :: S :: F) (fun _ _ h => h) ?_
    refine aN rfl (fun h103 => ?_) (fun h103 => ?_)
    ·refine fL aC 6 rfl (by omega) ?_
     exact j2 (h + 1) j ⟨⟨by omega, by omega, by omega, dq.NF h1 (by omega) (by omega) (by have q := Int.not_lt.1 (fun z => h103 (kh.2 z)); rw [gE (h) (by omega), gE (m) (by omega)] at q; exact q), hhi⟩, by omega⟩ (dp ln) (sub (bD .nil) aw)
    ·refine rC aC 5 rfl ?_
     exact j2 i h ⟨⟨by omega, by omega, by omega, hlo, dq.Ns h1 (by omega) (by omega) (by have q := kh.1 (Classical.not_not.1 h103); rw [gE (m) (by omega), gE (h) (by omega)] at q; exact q)⟩, by omega⟩ (dp ln) (sub (bD .nil) aw)
   ·refine rC aC 7 rfl ?_
    have hij : i = j := by omega
    subst hij
    have hbm : b = m + 1 := by omega
    refine rC aC 6 rfl ?_
    refine ik (fun (k : Nat) (l2 : List Int) => [(0, .slice p n cap), (14, .int .i64 (i : Int)), (17, .int .i64 (k : Int))]) (fun (k : Nat) (l2 : List Int) => Row I3 p n cap (l2) :: S :: F) (fun (k : Nat) (l2 : List Int) => i ≤ k ∧ k ≤ m ∧ dq.Mw key I3.d l l2 a b m k) (fun (k : Nat) (l2 : List Int) => k) (i2 (m) (l) ?_ (jg ln) (sub (bD .nil) aw)) ?_
    ·exact ⟨by omega, Nat.le_refl _, dq.Mw.start _ _ _ _⟩
    intro k l2
    rintro ⟨hk1, hk2, hMw⟩
    refine rL aC 8 rfl ?_
    refine aN rfl (fun h110 => ?_) (fun h110 => ?_)
    ·refine rC aC 4 rfl ?_
     refine wN [pz 0 [] [0], pz 0 [] [17], pz 0 [] [0], pz 0 [] [17], pz 8 [3] [], pz 0 [] [0], pz 0 [] [17], pz 64 [6] [], pz 224 [5, 7] [], pz 480 [8] [], pz 0 [] [0], pz 0 [] [17], pz 3072 [10, 11] [], pz 7168 [12] [], pz 16355 [0, 1] [], pz 32739 [14, 9] [], pz 65535 [2, 4] [], pz 131071 [16, 13] []] [⟨fun y => Row I3 p n cap (l2), none, some 15, [8, 9, 12, 13, 14]⟩, ⟨fun y => S, none, none, []⟩, ⟨fun y => Row I3 p n cap ((l2).set (k : Int).toNat ((I3).g (l2) ((k : Int) - 1))), some 15, some 17, [16]⟩, ⟨fun y => Row I3 p n cap (((l2).set (k : Int).toNat ((I3).g (l2) ((k : Int) - 1))).set ((k : Int) - 1).toNat ((I3).g (l2) (k : Int))), some 17, none, []⟩] F V.mixed ?_
     iterate 4 refine nM ?_
     refine nV (fun y hA L => gh rfl rfl wI) ?_
     iterate 2 refine nM ?_
     refine nV (fun y hA L => gh rfl rfl wI) ?_
     refine nR (fun y FF hA => xI V.cQ (own an)) ?_
     refine nR (fun y FF hA => xL V.s3 (own an)) ?_
     iterate 2 refine nM ?_
     refine nR (fun y FF hA => xI V.cQ (own an)) ?_
     refine nR (fun y FF hA => xL V.s3 (own an)) ?_
     refine nR (fun y FF hA => xI V.cQ (own an)) ?_
     refine nE (fun y FF hA => du (ij (c := (I3)) (_) V.s3 rfl rfl rfl (by exact cZ) (by omega) (by omega) rfl rfl) ⟨rfl, .refl _⟩) ?_
     refine nR (fun y FF hA => xI V.cQ (own an)) ?_
     refine nE (fun y FF hA => du (ij (c := (I3)) (_) V.s3 rfl rfl rfl (by exact cZ) (by omega) (by omega) rfl rfl) ⟨rfl, .refl _⟩) ?_
     refine aU ?_
     intro y hA
     clear hA
     show ly _ _ _ _ (S :: Row I3 p n cap (((l2).set (k : Int).toNat ((I3).g (l2) ((k : Int) - 1))).set ((k : Int) - 1).toNat ((I3).g (l2) (k : Int))) :: F)
     refine ks ?_
     refine ba ?_
     refine a7 ?_
     refine oV (aJ rfl) ?_
     refine oV (gh rfl rfl wI) ?_
     refine oV (dY rfl) ?_
     refine cB ?_
     have hlen2 := hMw.rl.len
     have e1 : ((k : Int) - 1).toNat = k - 1 := by omega
     have e0 : (k : Int).toNat = k := by omega
     simp only [Ec.g, e1, e0]
     rw [show (k : Int) - 1 = ((k - 1 : Nat) : Int) by omega]
     exact j2 (k - 1) _ ⟨⟨by omega, by omega, hMw.step (by omega) (by omega) (by omega) (by omega) (hhi _ (by omega) (by omega))⟩, by omega⟩ (jg ln) (sub (.cons az (ar .nil)) aw)
    ·refine rC aC 7 rfl ?_
     have hke : k = i := by omega
     subst hke
     exact ak fH ⟨rfl, l2, hMw.rl, hMw.fin (by omega) (by omega) hbm h1 hlo hhi, rfl⟩ (sub (bD .nil) aw)
  ·refine fL aC 7 rfl (by omega) ?_
   refine oV (bC V.u3 Tryz.underlying52 rfl (sr (by omega) (by omega))) ?_
   refine oV (eg rfl rfl (by decide) (zD (by omega))) ?_
   refine oV (bC V.F5 Tryz.underlying3 rfl wI) ?_
   refine oV (dY rfl) ?_
   obtain ⟨bb, hmidmid⟩ : ∃ bb : Nat, bb = (a + b) / 2 := ⟨_, rfl⟩
   rw [show ((a : Int) + (b : Int)) / 2 = ((bb : Nat) : Int) by omega]
   refine cS aC 16 rfl (by omega) ?_
   refine ym (fun (st0 : Nat) (r0 : Nat) => [(0, .slice p n cap), (1, .int .i64 (a : Int)), (2, .int .i64 (m : Int)), (3, .int .i64 (b : Int)), (4, .func (.func cf) fs.toArray cs.toArray), (18, .int .i64 (bb : Int)), (19, .int .i64 ((bb : Int) + (m : Int))), (20, .int .i64 (st0 : Int)), (21, .int .i64 (r0 : Int))]) (fun (st0 : Nat) (r0 : Nat) => Row I3 p n cap (l) :: S :: F) (fun (st0 : Nat) (r0 : Nat) => st0 = (if bb < m then bb + m - b else a) ∧ r0 = (if bb < m then bb else m)) ?_ ?_
   ·refine rL aC 7 rfl ?_
    refine aN rfl (fun h140 => ?_) (fun h140 => ?_)
    ·refine fL aC 12 rfl (by omega) ?_
     (rw [show (bb : Int) + (m : Int) - (b : Int) = ((bb + m - b : Nat) : Int) by omega]; exact j2 (bb + m - b) bb ⟨(if_pos (by omega)).symm, (if_pos (by omega)).symm⟩ (fZ (dp ln)) (sub (bD .nil) aw))
    ·refine rC aC 10 rfl ?_
     exact j2 a m ⟨(if_neg (by omega)).symm, (if_neg (by omega)).symm⟩ (fZ (dp ln)) (sub (bD .nil) aw)
   ·intro st0 r0
    rintro hst
    have hb0 : a ≤ st0 ∧ st0 ≤ r0 ∧ r0 ≤ m ∧ r0 ≤ bb ∧ bb + m ≤ st0 + b ∧ bb < b := by obtain ⟨e0, e1⟩ := hst; split at e0 <;> split at e1 <;> omega
    refine fL aC 9 rfl (by omega) ?_
    refine ik (fun (s : Nat) (r : Nat) => [(0, .slice p n cap), (1, .int .i64 (a : Int)), (2, .int .i64 (m : Int)), (3, .int .i64 (b : Int)), (4, .func (.func cf) fs.toArray cs.toArray), (18, .int .i64 (bb : Int)), (19, .int .i64 ((bb : Int) + (m : Int))), (20, .int .i64 (s : Int)), (21, .int .i64 (r : Int)), (22, .int .i64 (((bb : Int) + (m : Int)) - 1))]) (fun (s : Nat) (r : Nat) => Row I3 p n cap (l) :: S :: F) (fun (s : Nat) (r : Nat) => st0 ≤ s ∧ s ≤ r ∧ r ≤ r0 ∧ (∀ x, st0 ≤ x → x < s → key (l.getD x I3.d) ≤ key (l.getD (bb + m - 1 - x) I3.d)) ∧ (∀ x, r ≤ x → x < r0 → key (l.getD (bb + m - 1 - x) I3.d) < key (l.getD x I3.d))) (fun (s : Nat) (r : Nat) => r - s) (i2 (st0) (r0) ?_ (dp (dp ln)) (sub (bD .nil) aw)) ?_
    ·exact ⟨Nat.le_refl _, by omega, Nat.le_refl _, fun x x1 x2 => by omega, fun x x1 x2 => by omega⟩
    intro s r
    rintro ⟨hs1, hsr1, hr1, hy, hno⟩
    refine rL aC 8 rfl ?_
    refine aN rfl (fun h151 => ?_) (fun h151 => ?_)
    ·refine fL aC 8 rfl (by omega) ?_
     refine oV (bC V.u3 Tryz.underlying52 rfl (sr (by omega) (by omega))) ?_
     refine oV (eg rfl rfl (by decide) (zD (by omega))) ?_
     refine oV (bC V.F5 Tryz.underlying3 rfl wI) ?_
     refine oV (dY rfl) ?_
     obtain ⟨h, hhh⟩ : ∃ h : Nat, h = (s + r) / 2 := ⟨_, rfl⟩
     rw [show ((s : Int) + (r : Int)) / 2 = ((h : Nat) : Int) by omega]
     refine rO aC 3 rfl ?_
     refine wN [pz 0 [] [4], pz 0 [] [0], pz 0 [] [22], pz 0 [] [23], pz 12 [2, 3] [], pz 30 [1, 4] [], pz 62 [5] [], pz 0 [] [0], pz 0 [] [23], pz 384 [7, 8] [], pz 896 [9] [], pz 2047 [0, 6, 10] [], pz 4095 [11] [], pz 8191 [12] []] [⟨fun y => Row I3 p n cap (l), none, none, [5, 6, 9, 10]⟩, ⟨fun y => S, none, some 11, []⟩, ⟨fun y => S, some 11, none, []⟩] F V.mixed ?_
     iterate 4 refine nM ?_
     refine nV (fun y hA L => gh rfl rfl wI) ?_
     refine nR (fun y FF hA => xI V.cQ (own an)) ?_
     refine nR (fun y FF hA => xL V.s3 (own an)) ?_
     iterate 2 refine nM ?_
     refine nR (fun y FF hA => xI V.cQ (own an)) ?_
     refine nR (fun y FF hA => xL V.s3 (own an)) ?_
     refine nE (fun y FF hA => k5 (fs := fs) (cs := cs) (Post := [S]) (hf (I3.g l ((((bb : Int) + (m : Int)) - 1) - (h : Int))) (I3.g l (h : Int)) (gP (k := bb + m - 1 - h) (by omega) (hpd _ (by omega))) (gP (k := h) (by omega) (hpd _ (by omega)))) hb rfl rfl (ar .nil) (fun v G h => by rcases h with ⟨rfl, rfl⟩; exact ⟨rfl, .refl _⟩)) ?_
     refine nV (fun y hA L => bo rfl rfl) ?_
     refine nV (fun y hA L => Bv rfl) ?_
     refine aU ?_
     intro y hA
     clear hA
     refine ba ?_
     refine bZ _ (.cons (d := 0) rfl (.cons (d := 1) rfl (.cons (d := 2) rfl (.cons (d := 3) rfl (.cons (d := 4) rfl (.cons (d := 18) rfl (.cons (d := 19) rfl (.cons (d := 20) rfl (.cons (d := 21) rfl (.cons (d := 22) rfl (.cons (d := 23) rfl (.cons (d := 171) rfl (.nil _))))))))))))) ?_
     refine bP (M := Row I3 p n cap (l) :: S :: F) (fun _ _ h => h) ?_
     refine aN rfl (fun h171 => ?_) (fun h171 => ?_)
     ·refine fL aC 6 rfl (by omega) ?_
      exact j2 (h + 1) r ⟨⟨by omega, by omega, by omega, dq.KM ham hmb hmidmid h1 h2 hst.1 hst.2 (by omega) (by omega) (by have q := Int.not_lt.1 (fun z => h171 (kh.2 z)); rw [gE (h) (by omega), gE (bb + m - 1 - h) (by omega)] at q; exact q), hno⟩, by omega⟩ (dp (dp ln)) (sub (bD .nil) aw)
     ·refine rC aC 5 rfl ?_
      exact j2 s h ⟨⟨by omega, by omega, by omega, hy, dq.KK ham hmb hmidmid h1 h2 hst.1 hst.2 (by omega) (by omega) (by have q := kh.1 (Classical.not_not.1 h171); rw [gE (bb + m - 1 - h) (by omega), gE (h) (by omega)] at q; exact q)⟩, by omega⟩ (dp (dp ln)) (sub (bD .nil) aw)
    ·refine rC aC 6 rfl ?_
     have hsr : s = r := by omega
     subst hsr
     obtain ⟨q1, q2, q3, q4, q5, q6, hlt, hc⟩ := dq.C0 (by omega) ham hmb hmidmid h1 h2 (by rw [← hst.1]; omega) (by rw [← hst.2]; omega) (fun hh => hy (s - 1) (by rw [← hst.1] at hh; omega) (by rw [← hst.1] at hh; omega)) (fun hh => hno s (Nat.le_refl _) (by rw [← hst.2] at hh; omega))
     refine fL aC 5 rfl (by omega) ?_
     obtain ⟨e, he⟩ : ∃ e : Nat, e = bb + m - s := ⟨_, rfl⟩
     rw [show (bb : Int) + (m : Int) - (s : Int) = ((e : Nat) : Int) by omega]
     refine rO aC 2 rfl ?_
     refine mE (fun (l1 : List Int) => [(0, .slice p n cap), (1, .int .i64 (a : Int)), (3, .int .i64 (b : Int)), (4, .func (.func cf) fs.toArray cs.toArray), (18, .int .i64 (bb : Int)), (20, .int .i64 (s : Int)), (24, .int .i64 (e : Int))]) (fun (l1 : List Int) => Row I3 p n cap (l1) :: S :: F) (fun (l1 : List Int) => dq.m7 key I3.d l l1 a s bb e b) ?_ ?_
     ·refine rL aC 6 rfl ?_
      refine kZ 181 rfl (fun h181 => ?_) (fun h181 => ?_)
      ·refine rO aC 6 rfl ?_
       refine aN rfl (fun h185 => ?_) (fun h185 => ?_)
       ·obtain ⟨Pp, X, Y, Z, hl, hP, hX, hY, hXm, hYm⟩ := dq.blocks (d := I3.d) l s m e (by omega) (by omega) (by omega)
        subst hl
        refine rC aC 6 rfl ?_
        refine ai (AW p n cap _ Pp X Y Z (s : Int) (m : Int) (e : Int) (by omega) (by omega) (by omega) (by omega) (by omega) (by simp only [List.length_append] at hlen; omega) hn2) V.On  rfl (ar .nil) rfl ?_
        rintro _ _ ⟨rfl, rfl⟩
        refine cB ?_
        refine j1 (_) ?_ (ku (dp ln)) (sub (bD .nil) aw)
        (subst he; exact dq.m7.P3 hP hX (by omega) h1 h2 ⟨q1, q2, q3, q4, q5, q6⟩ (hlt (by omega) (by omega)) hc hXm hYm)
       ·refine rC aC 1 rfl ?_
        refine j1 (_) ?_ (ku (dp ln)) (sub (bD .nil) aw)
        (subst he; exact dq.m7.stay h1 h2 ⟨q1, q2, q3, q4, q5, q6⟩ hc (by omega))
      ·refine rO aC 8 rfl ?_
       refine j1 (_) ?_ (ku (dp ln)) (sub (bD .nil) aw)
       (subst he; exact dq.m7.stay h1 h2 ⟨q1, q2, q3, q4, q5, q6⟩ hc (by omega))
     ·intro l1
      rintro hPt
      refine mE (fun (l2 : List Int) => [(0, .slice p n cap), (3, .int .i64 (b : Int)), (4, .func (.func cf) fs.toArray cs.toArray), (18, .int .i64 (bb : Int)), (24, .int .i64 (e : Int))]) (fun (l2 : List Int) => Row I3 p n cap (l2) :: S :: F) (fun (l2 : List Int) => dq.Rl key I3.d l1 l2 a bb ∧ dq.Sd key I3.d l2 a bb) ?_ ?_
      ·refine rL aC 6 rfl ?_
       refine kZ 195 rfl (fun h195 => ?_) (fun h195 => ?_)
       ·refine rO aC 6 rfl ?_
        refine aN rfl (fun h199 => ?_) (fun h199 => ?_)
        ·refine rC aC 6 rfl ?_
         refine ai (ih l1 a s bb (by omega) (by omega) (by omega) (by omega) (hPt.rl.pd (by omega) hpd) hPt.s1 hPt.s2) V.Af  rfl (bD .nil) rfl ?_
         rintro _ _ ⟨rfl, l2, hr2, hs2, rfl⟩
         refine cB ?_
         refine j1 (_) ?_ (dp ln) (sub (bD .nil) aw)
         exact ⟨hr2, hs2⟩
        ·refine rC aC 1 rfl ?_
         refine j1 (_) ?_ (dp ln) (sub (bD .nil) aw)
         exact ⟨dq.Rl.refl _ _ _, dq.Sd.join hPt.s1 hPt.s2 (fun i j i1 i2 j1 j2 => by omega)⟩
       ·refine rO aC 8 rfl ?_
        refine j1 (_) ?_ (dp ln) (sub (bD .nil) aw)
        exact ⟨dq.Rl.refl _ _ _, dq.Sd.join hPt.s1 hPt.s2 (fun i j i1 i2 j1 j2 => by omega)⟩
      ·intro l2
       rintro ⟨hR2, hS2⟩
       refine rC aC 6 rfl ?_
       refine kZ 209 rfl (fun h209 => ?_) (fun h209 => ?_)
       ·refine rO aC 6 rfl ?_
        refine aN rfl (fun h213 => ?_) (fun h213 => ?_)
        ·refine rC aC 6 rfl ?_
         refine ai (ih l2 bb e b (by omega) (by omega) (by omega) (by omega) (hR2.pd (by omega) (hPt.rl.pd (by omega) hpd)) (hPt.s3.congr (fun i i1 i2 => hR2.out i (by omega))) (hPt.s4.congr (fun i i1 i2 => hR2.out i (by omega)))) V.Af  rfl (bD .nil) rfl ?_
         rintro _ _ ⟨rfl, l3, hr3, ng, rfl⟩
         refine cB ?_
         exact iR fH ⟨rfl, l3, hPt.rl.trans ((hR2.wide (Nat.le_refl _) (by omega)).trans (hr3.wide (by omega) (Nat.le_refl _))), dq.Sd.join (hS2.congr (fun i i1 i2 => hr3.out i (by omega))) ng (dq.xH (dq.o7 hPt.cr hR2) hr3), rfl⟩ (sub (bD .nil) aw)
        ·refine rC aC 1 rfl ?_
         exact iR fH ⟨rfl, l2, hPt.rl.trans (hR2.wide (Nat.le_refl _) (by omega)), dq.Sd.join hS2 (dq.Sd.join (hPt.s3.congr (fun i i1 i2 => hR2.out i (by omega))) (hPt.s4.congr (fun i i1 i2 => hR2.out i (by omega))) (fun i j i1 i2 j1 j2 => by omega)) (dq.o7 hPt.cr hR2), rfl⟩ (sub (bD .nil) aw)
       ·refine rO aC 8 rfl ?_
        exact iR fH ⟨rfl, l2, hPt.rl.trans (hR2.wide (Nat.le_refl _) (by omega)), dq.Sd.join hS2 (dq.Sd.join (hPt.s3.congr (fun i i1 i2 => hR2.out i (by omega))) (hPt.s4.congr (fun i i1 i2 => hR2.out i (by omega))) (fun i j i1 i2 j1 j2 => by omega)) (dq.o7 hPt.cr hR2), rfl⟩ (sub (bD .nil) aw)
theorem sb (p : Option Addr) (n cap : Nat) (cf : Nat) (fs cs : List Value) (S : ab) (key : Int → Int) (Pd : Int → Prop) (hb : aF Tryz.prog cf = true) (hf : ∀ x y, Pd x → Pd y → aE Tryz.prog cf (fs ++ [.int .i64 x, .int .i64 y] ++ cs) [S] (aO fun v G => v = .int .i64 (mn (key x) (key y)) ∧ G = [S])) (hn2 : n ≤ 1000000) : ∀ (k : Nat) (l : List Int) (a m b : Nat), b - a ≤ k → a < m → m < b → b ≤ n → (∀ i, i < n → Pd (l.getD i I3.d)) → dq.Sd key I3.d l a m → dq.Sd key I3.d l m b → aE Tryz.prog 246 [.slice p n cap, .int .i64 (a : Int), .int .i64 (m : Int), .int .i64 (b : Int), .func (.func cf) fs.toArray cs.toArray] [Row I3 p n cap (l), S] (aO fun v G => v = .tuple #[] ∧ ∃ l2, dq.Rl key I3.d l l2 a b ∧ dq.Sd key I3.d l2 a b ∧ G = [Row I3 p n cap (l2), S])
 | 0, l, a, m, b, hk, ham, hmb, hbn, hpd, h1, h2 => by omega
 | k + 1, l, a, m, b, hk, ham, hmb, hbn, hpd, h1, h2 => CF p n cap cf fs cs S key Pd hb hf l a m b ham hmb hbn hn2 hpd h1 h2 (fun l a2 m2 b2 hlt q1 q2 q3 q4 q5 q6 => sb p n cap cf fs cs S key Pd hb hf hn2 k l a2 m2 b2 (by omega) q1 q2 q3 q4 q5 q6)
set_option maxHeartbeats 8000000 in
theorem A5 (p : Option Addr) (n cap : Nat) (cf : Nat) (fs cs : List Value) (S : ab) (key : Int → Int) (Pd : Int → Prop) (hb : aF Tryz.prog cf = true) (hf : ∀ x y, Pd x → Pd y → aE Tryz.prog cf (fs ++ [.int .i64 x, .int .i64 y] ++ cs) [S] (aO fun v G => v = .int .i64 (mn (key x) (key y)) ∧ G = [S])) (l : List Int) (hn2 : n ≤ 1000000) (hpd : ∀ i, i < n → Pd (l.getD i I3.d)) : aE Tryz.prog 229 [.slice p n cap, .int .i64 (n : Int), .func (.func cf) fs.toArray cs.toArray] [Row I3 p n cap (l), S] (aO fun v G => v = .tuple #[] ∧ ∃ l2, dq.Rl key I3.d l l2 0 n ∧ dq.Sd key I3.d l2 0 n ∧ G = [Row I3 p n cap (l2), S]) := by
 refine au [(0, _), (1, _), (2, _)] Tryz.func229 rfl Tryz.ntmps229 rfl rfl ?_
 intro w0 F
 refine rT aC 14 rfl ?_
 refine ik (fun (A : Nat) (l1 : List Int) => [(0, .slice p n cap), (1, .int .i64 (n : Int)), (2, .func (.func cf) fs.toArray cs.toArray), (6, .int .i64 20), (7, .int .i64 (A : Int)), (8, .int .i64 ((20 + A : Nat) : Int))]) (fun (A : Nat) (l1 : List Int) => Row I3 p n cap (l1) :: S :: F) (fun (A : Nat) (l1 : List Int) => 20 ∣ A ∧ A ≤ n ∧ dq.Rl key I3.d l l1 0 n ∧ dq.Bd key I3.d l1 20 A) (fun (A : Nat) (l1 : List Int) => n - A) (i2 (0) (l) ?_ (kJ (dp ln)) (sub (bD .nil) aw)) ?_
 ·exact ⟨Nat.dvd_zero _, Nat.zero_le _, dq.Rl.refl _ _ _, dq.Bd.zero _ _ (by decide)⟩
 intro A l1
 rintro ⟨hA, hAn, hR1, hBd⟩
 refine rL aC 8 rfl ?_
 refine aN rfl (fun h13 => ?_) (fun h13 => ?_)
 ·refine rC aC 9 rfl ?_
  refine ai (pO p n cap cf fs cs S key Pd hb hf l1 _ _ A (20 + A) rfl rfl (by omega) (by omega) hn2 (hR1.pd (Nat.le_refl _) hpd)) V.KJ  rfl (bD .nil) rfl ?_
  rintro _ _ ⟨rfl, l3, hr3, ng, rfl⟩
  refine cS aC 15 rfl (by omega) ?_
  rw [show ((20 + A : Nat) : Int) + 20 = ((20 + (20 + A) : Nat) : Int) by omega]
  exact j2 (20 + A) _ ⟨⟨by omega, by omega, hR1.trans (hr3.wide (Nat.zero_le _) (by omega)), hBd.step hA hr3 ng⟩, by omega⟩ (kJ (dp ln)) (sub (bD .nil) aw)
 ·refine rC aC 11 rfl ?_
  refine ai (pO p n cap cf fs cs S key Pd hb hf l1 _ _ A n rfl rfl (by omega) (by omega) hn2 (hR1.pd (Nat.le_refl _) hpd)) V.KJ  rfl (bD .nil) rfl ?_
  rintro _ _ ⟨rfl, l3, hr3, ng, rfl⟩
  refine rO aC 3 rfl ?_
  refine ik (fun (bs : Nat) (l1 : List Int) => [(0, .slice p n cap), (1, .int .i64 (n : Int)), (2, .func (.func cf) fs.toArray cs.toArray), (6, .int .i64 (bs : Int))]) (fun (bs : Nat) (l1 : List Int) => Row I3 p n cap (l1) :: S :: F) (fun (bs : Nat) (l1 : List Int) => 0 < bs ∧ dq.Rl key I3.d l l1 0 n ∧ dq.Bk key I3.d l1 bs n) (fun (bs : Nat) (l1 : List Int) => n - bs) (i2 (20) (_) ?_ (fZ ln) (sub (bD .nil) aw)) ?_
  ·exact ⟨by decide, hR1.trans (hr3.wide (Nat.zero_le _) (Nat.le_refl _)), hBd.fin hA hAn (by omega) hr3 ng⟩
  intro bs l1
  rintro ⟨hbs, hR1, hBk⟩
  refine rL aC 8 rfl ?_
  refine aN rfl (fun h30 => ?_) (fun h30 => ?_)
  ·refine fL aC 13 rfl (by omega) ?_
   refine ik (fun (A : Nat) (l2 : List Int) => [(0, .slice p n cap), (1, .int .i64 (n : Int)), (2, .func (.func cf) fs.toArray cs.toArray), (6, .int .i64 (bs : Int)), (7, .int .i64 (A : Int)), (8, .int .i64 ((2 * bs + A : Nat) : Int))]) (fun (A : Nat) (l2 : List Int) => Row I3 p n cap (l2) :: S :: F) (fun (A : Nat) (l2 : List Int) => 2 * bs ∣ A ∧ A ≤ n ∧ dq.Rl key I3.d l l2 0 n ∧ dq.Bd key I3.d l2 (2 * bs) A ∧ dq.Br key I3.d l2 bs n A) (fun (A : Nat) (l2 : List Int) => n - A) (i2 (0) (_) ?_ (kJ (dp ln)) (sub (bD .nil) aw)) ?_
   ·exact ⟨Nat.dvd_zero _, Nat.zero_le _, hR1, dq.Bd.zero _ _ (by omega), hBk.br⟩
   intro A l2
   rintro ⟨hA, hAn, hR2, hBd, hBr⟩
   refine rL aC 8 rfl ?_
   refine aN rfl (fun h35 => ?_) (fun h35 => ?_)
   ·refine fL aC 12 rfl (by omega) ?_
    refine ai (sb p n cap cf fs cs S key Pd hb hf hn2 _ l2 A (A + bs) (2 * bs + A) (Nat.le_refl _) (by omega) (by omega) (by omega) (hR2.pd (Nat.le_refl _) hpd) (hBr.two hA (by omega)).1 (hBr.two hA (by omega)).2) V.Af  rfl (bD .nil) rfl ?_
    rintro _ _ ⟨rfl, l3, hr3, ng, rfl⟩
    refine cS aC 16 rfl (by omega) ?_
    rw [show ((2 * bs + A : Nat) : Int) + 2 * (bs : Int) = ((2 * bs + (2 * bs + A) : Nat) : Int) by omega]
    exact j2 (2 * bs + A) _ ⟨⟨Nat.dvd_add (Nat.dvd_refl _) hA, by omega, hR2.trans (hr3.wide (Nat.zero_le _) (by omega)), hBd.step hA hr3 ng, hBr.step (by omega) hr3⟩, by omega⟩ (kJ (dp ln)) (sub (bD .nil) aw)
   ·refine fL aC 21 rfl (by omega) ?_
    refine aN rfl (fun h54 => ?_) (fun h54 => ?_)
    ·refine rC aC 6 rfl ?_
     refine ai (sb p n cap cf fs cs S key Pd hb hf hn2 _ l2 A (A + bs) n (Nat.le_refl _) (by omega) (by omega) (by omega) (hR2.pd (Nat.le_refl _) hpd) (hBr.last hA (by omega) (by omega)).1 (hBr.last hA (by omega) (by omega)).2) V.Af  rfl (bD .nil) rfl ?_
     rintro _ _ ⟨rfl, l3, hr3, ng, rfl⟩
     refine cS aC 8 rfl (by omega) ?_
     rw [show (bs : Int) * 2 = ((2 * bs : Nat) : Int) by omega]
     exact j2 (2 * bs) _ ⟨⟨by omega, hR2.trans (hr3.wide (Nat.zero_le _) (Nat.le_refl _)), hBd.fin hA (by omega) (by omega) hr3 ng⟩, by omega⟩ (fZ ln) (sub (bD .nil) aw)
    ·refine fL aC 8 rfl (by omega) ?_
     rw [show (bs : Int) * 2 = ((2 * bs : Nat) : Int) by omega]
     exact j2 (2 * bs) _ ⟨⟨by omega, hR2, hBd.fin hA (by omega) (by omega) (dq.Rl.refl _ _ _) (hBr.one hA (by omega))⟩, by omega⟩ (fZ ln) (sub (bD .nil) aw)
  ·refine rC aC 4 rfl ?_
   exact iR fH ⟨rfl, l1, hR1, hBk.all (by omega), rfl⟩ (sub (bD .nil) aw)
theorem G7 (p : Option Addr) (n cap : Nat) (cf : Nat) (fs cs : List Value) (S : ab) (key : Int → Int) (Pd : Int → Prop) (hb : aF Tryz.prog cf = true) (hf : ∀ x y, Pd x → Pd y → aE Tryz.prog cf (fs ++ [.int .i64 x, .int .i64 y] ++ cs) [S] (aO fun v G => v = .int .i64 (mn (key x) (key y)) ∧ G = [S])) (l : List Int) (hn2 : n ≤ 1000000) (hpd : ∀ i, i < n → Pd (l.getD i I3.d)) : aE Tryz.prog 216 [.slice p n cap, .func (.func cf) fs.toArray cs.toArray] [Row I3 p n cap (l), S] (aO fun v G => v = .tuple #[] ∧ ∃ l2, dq.Rl key I3.d l l2 0 n ∧ dq.Sd key I3.d l2 0 n ∧ G = [Row I3 p n cap (l2), S]) := by
 refine au [(0, _), (1, _)] Tryz.func216 rfl Tryz.ntmps216 rfl rfl ?_
 intro w0 F
 refine rT aC 5 rfl ?_
 refine ai (A5 p n cap cf fs cs S key Pd hb hf l hn2 hpd) V.O3  rfl (bD .nil) rfl ?_
 rintro _ _ ⟨rfl, l3, hr3, ng, rfl⟩
 refine cB ?_
 exact iR fH ⟨rfl, l3, hr3, ng, rfl⟩ (sub (bD .nil) aw)
end Go.Proofs.YtmaiakpjgomnpaaGreat
namespace Go.Proofs.YtmaiakpjgomnpaaGreat
open Go.Sl 
theorem fN : dR Tryz.prog ⟨[], []⟩ = true := by kernel_rfl
theorem yf (x : Int) : aE Tryz.prog 230 [.int .i64 x] [] (aO fun v G => v = .bool false ∧ G = []) := by
 refine au [(0, _)] Tryz.func230 rfl Tryz.ntmps230 rfl rfl ?_
 intro w0 F
 refine rT fN 14 rfl ?_
 exact ak (aB rfl) ⟨by simp, rfl⟩ (sub .nil aw)
theorem AV (x y : Int) : aE Tryz.prog 218 [.int .i64 x, .int .i64 y] [] (aO fun v G => v = .int .i64 (mn x y) ∧ G = []) := by
 refine au [(0, _), (1, _)] Tryz.func218 rfl Tryz.ntmps218 rfl rfl ?_
 intro w0 F
 refine rT fN 8 rfl ?_
 refine ai (yf x) V.Jh  rfl .nil rfl ?_
 rintro _ _ ⟨rfl, rfl⟩
 refine rO fN 6 rfl ?_
 refine ai (yf y) V.Jh  rfl .nil rfl ?_
 rintro _ _ ⟨rfl, rfl⟩
 refine rO fN 29 rfl ?_
 refine aN rfl (fun h16 => ?_) (fun h16 => ?_)
 ·refine rC fN 7 rfl ?_
  exact ak (aB rfl) ⟨by rw [mn, if_pos (by assumption)], rfl⟩ (sub .nil aw)
 ·refine rC fN 10 rfl ?_
  refine aN rfl (fun h19 => ?_) (fun h19 => ?_)
  ·refine rC fN 7 rfl ?_
   exact ak (aB rfl) ⟨by rw [mn, if_neg (by assumption), if_pos (by omega)], rfl⟩ (sub .nil aw)
  ·refine rC fN 8 rfl ?_
   exact ak (aB rfl) ⟨by rw [mn, if_neg (by assumption), if_neg (by omega)], rfl⟩ (sub .nil aw)
theorem KH (p : Option Addr) (n cap : Nat) (ls : List Int) (R : ab) (hR : ∀ w0 h, R w0 h → aR I3 p n ls w0 h) (bL : Nat) (x y : Int) (hx : 0 ≤ x ∧ x < n) (hy : 0 ≤ y ∧ y < n) : aE Tryz.prog 217 [.int .i64 x, .int .i64 y, .pointer (some ⟨bL, 0, none⟩)] [ao bL 47 [.slice p n cap], R] (aO fun v G => v = .int .i64 (mn (ls.getD x.toNat 0) (ls.getD y.toNat 0)) ∧ G = [ao bL 47 [.slice p n cap], R]) := by
 refine au [(0, _), (1, _), (2, _)] Tryz.func217 rfl Tryz.ntmps217 rfl rfl ?_
 intro w0 F
 refine rT fN 6 rfl ?_
 refine wN [pz 0 [] [2], pz 0 [] [0], pz 3 [0, 1] [], pz 7 [2] [], pz 0 [] [2], pz 0 [] [1], pz 48 [4, 5] [], pz 112 [6] [], pz 255 [3, 7] [], pz 511 [8] []] [⟨fun y => ao bL 47 [.slice p n cap], none, none, [0, 4]⟩, ⟨fun y => R, none, none, [2, 3, 6, 7]⟩] F V.mixed ?_
 refine nR (fun y FF hA => ae V.kV rfl an rfl) ?_
 refine nM ?_
 refine nR (fun y FF hA => xI V.cQ (by exact bE hR an)) ?_
 refine nR (fun y FF hA => xL V.s3 (by exact bE hR an)) ?_
 refine nR (fun y FF hA => ae V.kV rfl an rfl) ?_
 refine nM ?_
 refine nR (fun y FF hA => xI V.cQ (by exact bE hR an)) ?_
 refine nR (fun y FF hA => xL V.s3 (by exact bE hR an)) ?_
 refine nE (fun y FF hA => bK (Post := []) (AV _ _) V.Ot rfl .nil (fun v G h => by rcases h with ⟨rfl, rfl⟩; exact ⟨rfl, .refl _⟩)) ?_
 refine nA ?_
 refine aU ?_
 intro y hA
 clear hA
 refine ba ?_
 refine bZ _ (.cons (d := 5) rfl (.nil _)) ?_
 refine bP (M := ao bL 47 [.slice p n cap] :: R :: F) (fun _ _ h => h) ?_
 refine rC fN 1 rfl ?_
 exact ak (aB rfl) ⟨rfl, rfl⟩ (sub (bD .nil) aw)
theorem GF (C : List Int) (all : Int) (hl : C.length = 16) (hC : ∀ i, 0 ≤ C.getD i 0 ∧ C.getD i 0 ≤ 320) : aE Tryz.prog 215 [.agg (ints .i64 C).toArray, .int .i64 all] [] (aO fun v G => v = .bool (af.gH C all) ∧ G = []) := by
 refine au [(0, _), (1, _)] Tryz.func215 rfl Tryz.ntmps215 rfl rfl ?_
 intro w0 F
 refine rT fN 2 rfl ?_
 refine eL rfl (vK _ _) rfl ?_
 intro b2
 refine rO fN 15 rfl ?_
 refine dX (fun (k : Nat) => [(1, .int .i64 all), (2, .pointer (some ⟨b2, 0, none⟩)), (5, .int .i64 (af.left C k)), (6, .int .i64 ((k : Int) + 1))]) (fun (k : Nat) => ao b2 229 (CA [] .i64 C []) :: F) (fun (k : Nat) => k ≤ 15 ∧ ∀ m, 1 ≤ m → m ≤ k → 0 ≤ af.left C m) (fun (k : Nat) => 15 - k) (i1 (0) ?_ (fZ ln) (sub (ar .nil) aw)) ?_
 ·exact ⟨by omega, fun m h1 h2 => by omega⟩
 intro k
 rintro ⟨hk, hno⟩
 have hcc := hC ((k : Int) + 1).toNat
 have hlb := af.zQ (fun i => (hC i).1) hk
 have hl0 := af.HA hno
 have hlen : C.length = 16 := hl
 refine rL fN 7 rfl ?_
 refine aN rfl (fun h8 => ?_) (fun h8 => ?_)
 ·refine fL fN 9 rfl (by omega) ?_
  refine oV (il (k + 1) rfl V.oB rfl rfl (by omega)) ?_
  refine oV (mR ((k : Int) + 1) V.s3 rfl an (by (simp only [List.length_cons, List.length_nil]; omega)) (by omega) (by omega)) ?_
  refine cS fN 10 rfl (by omega) ?_
  refine aN rfl (fun h18 => ?_) (fun h18 => ?_)
  ·refine rC fN 11 rfl ?_
   exact ak (aB rfl) ⟨by rw [af.wu (n := k + 1) (by omega) (by omega) (by rw [← af.qn]; exact h18)], rfl⟩ (sub .nil cC)
  ·refine fL fN 8 rfl (by omega) ?_
   have hno2 := af.BT hno h18
   rw [af.qn]
   exact j1 (k + 1) ⟨⟨by omega, hno2⟩, by omega⟩ (fZ ln) (sub (ar .nil) aw)
 ·refine rC fN 10 rfl ?_
  refine kZ 21 rfl (fun h21 => ?_) (fun h21 => ?_)
  ·refine rO fN 16 rfl ?_
   exact ak (aB rfl) ⟨by rw [af.np hk h8 hno]; (simp [h21]; done), rfl⟩ (sub .nil cC)
  ·refine rO fN 4 rfl ?_
   refine kZ 25 rfl (fun h25 => ?_) (fun h25 => ?_)
   ·refine rO fN 12 rfl ?_
    exact ak (aB rfl) ⟨by rw [af.np hk h8 hno]; (simp [h21, h25]; done), rfl⟩ (sub .nil cC)
   ·refine rO fN 3 rfl ?_
    refine kZ 28 rfl (fun h28 => ?_) (fun h28 => ?_)
    ·refine ag rfl ?_
     refine oV (il 1 rfl V.oB rfl rfl (by omega)) ?_
     refine ag rfl ?_
     refine oV (mR (1 : Int) V.s3 rfl an (by (simp only [List.length_cons, List.length_nil]; omega)) (by omega) (by omega)) ?_
     refine rO fN 7 rfl ?_
     exact ak (aB rfl) ⟨by rw [af.np hk h8 hno]; (simp [h21, h25, h28]; done), rfl⟩ (sub .nil cC)
    ·refine rO fN 9 rfl ?_
     exact ak (aB rfl) ⟨by rw [af.np hk h8 hno]; (simp [h21, h25, h28]; done), rfl⟩ (sub .nil cC)
end Go.Proofs.YtmaiakpjgomnpaaGreat
namespace Go.Proofs.YtmaiakpjgomnpaaGreat
open Go.Sl 
theorem dK : dR Tryz.prog ⟨[47], [(275, 0, 0), (275, 2, 17), (275, 3, 18)]⟩ = true := by kernel_rfl
attribute [local irreducible] af.ord af.iS af.dL af.cK af.c9 af.words af.fS af.lenOf af.bU af.left af.gH
set_option maxHeartbeats 1000000 in
theorem EY (p : Option Addr) (cap : Nat) (ls : List Int) (R : ab) (hR : ∀ w0 h, R w0 h → aR I3 p ls.length ls w0 h) : aE Tryz.prog 195 [.slice p ls.length cap] [R] (aO fun v G => (af.bU ls = 0 ∧ ∃ b, v = .tuple #[.pointer (some ⟨b, 0, none⟩), .int .i64 0] ∧ G = [HC b ls, R]) ∨ (af.bU ls ≠ 0 ∧ v = .tuple #[.pointer none, .int .i64 (af.bU ls)] ∧ G = [R])) := by
 refine au [(0, _)] Tryz.func195 rfl Tryz.ntmps195 rfl rfl ?_
 intro w0 F
 refine rT dK 2 rfl ?_
 refine eL rfl (cs := [_]) rfl rfl ?_
 intro b1
 refine rO dK 7 rfl ?_
 refine oV (ae V.kV rfl an rfl) ?_
 refine rO dK 4 rfl ?_
 refine aN rfl (fun h13 => ?_) (fun h13 => ?_)
 ·refine rC dK 8 rfl ?_
  exact ak (fy rfl rfl) (.inr ⟨by rw [af.uX (by omega)]; decide, by rw [af.uX (by omega)], rfl⟩) (sub (.cons az .nil) cC)
 ·refine rC dK 4 rfl ?_
  refine oV (ae V.kV rfl an rfl) ?_
  refine oV (eu (ty' := 0) Tryz.underlying47 rfl) ?_
  refine n6 ls.length ls.length (pN) rfl rfl V.FN V.Jr rfl rfl rfl rfl (by omega) (by omega) rfl rfl ?_
  intro b16
  refine oV (cD V.Mt V.Pg rfl (cs := [_, _, _, _, _, _, _, _, _, _, _, _, _, _, _, _, _, _, _]) rfl) ?_
  refine eL rfl (show _ = CA [.slice (some ⟨b16, 0, none⟩) ls.length ls.length] .i64 (af.cK (ls.take 0)) [.slice none (af.dL (ls.take 0)).length 0, .int .i64 (af.c9 (ls.take 0))] from by rw [List.take_zero, af.Eg, af.xe, af.DV]; rfl) rfl ?_
  intro b18
  refine rO dK 6 rfl ?_
  refine oV (ae V.kV rfl dH rfl) ?_
  refine rO dK 5 rfl ?_
  refine gT (Row I3 none (af.dL (ls.take 0)).length 0 (af.dL (ls.take 0))) (by rw [List.take_zero, af.xe]; exact Row.nil _ _ _) ?_
  refine jS (fun (k : Nat) (po : Option Addr) (co : Nat) => [(1, .pointer (some ⟨b1, 0, none⟩)), (4, .pointer (some ⟨b18, 0, none⟩)), (19, .slice p ls.length cap), (20, .int .i64 (ls.length : Int)), (21, .int .i64 (k : Int))]) (fun (k : Nat) (po : Option Addr) (co : Nat) => ao b18 275 (CA [.slice (some ⟨b16, 0, none⟩) ls.length ls.length] .i64 (af.cK (ls.take k)) [.slice po (af.dL (ls.take k)).length co, .int .i64 (af.c9 (ls.take k))]) :: Row I3 po (af.dL (ls.take k)).length co (af.dL (ls.take k)) :: Row pN (some ⟨b16, 0, none⟩) ls.length ls.length (List.replicate ls.length (0, 0)) :: ao b1 47 [.slice p ls.length cap] :: R :: F) (fun (k : Nat) (po : Option Addr) (co : Nat) => k ≤ ls.length ∧ ∀ i, i < k → 0 ≤ ls.getD i 0 ∧ ls.getD i 0 ≤ 15) (fun (k : Nat) (po : Option Addr) (co : Nat) => ls.length - k) (i3 (0) (none) (0) ?_ (dp ln) (sub (.cons az (ny .nil)) aw)) ?_
  ·exact ⟨by omega, fun i hi => by omega⟩
  intro k po co
  rintro ⟨hk, hok⟩
  refine rL dK 6 rfl ?_
  refine aN rfl (fun h22 => ?_) (fun h22 => ?_)
  ·refine rC dK 7 rfl ?_
   refine oV (xI V.cQ (by exact bE hR jz)) ?_
   refine oV (xL V.s3 (by exact bE hR jz)) ?_
   refine rO dK 6 rfl ?_
   have hk2 : k < ls.length := by omega
   have hg : I3.g ls (k : Int) = ls.getD k 0 := by simp [Ec.g]
   have hg2 : ls.getD k 0 = ls[k] := by simp [hk2]
   have htk : (ls.take k).length = k := by rw [List.length_take]; omega
   have hcl := af.kg (ls.take k)
   have hcb := af.o0 (ls := ls.take k) (by omega) (I3.g ls (k : Int)).toNat
   have hpl2 := af.tN (ls.take k)
   refine rC dK 4 rfl ?_
   refine kZ 28 rfl (fun h28 => ?_) (fun h28 => ?_)
   ·refine rO dK 19 rfl ?_
    exact ak (fy rfl rfl) (.inr ⟨by rw [af.oJ (by omega) hk2 (by omega)]; decide, by rw [af.oJ (by omega) hk2 (by omega)], rfl⟩) (sub (.cons jA .nil) mw)
   ·refine rO dK 5 rfl ?_
    refine aN rfl (fun h31 => ?_) (fun h31 => ?_)
    ·refine rC dK 13 rfl ?_
     exact ak (fy rfl rfl) (.inr ⟨by rw [af.oJ (by omega) hk2 (by omega)]; decide, by rw [af.oJ (by omega) hk2 (by omega)], rfl⟩) (sub (.cons jA .nil) mw)
    ·refine rC dK 8 rfl ?_
     refine aN rfl (fun h33 => ?_) (fun h33 => ?_)
     ·refine rC dK 1 rfl ?_
      refine wN [pz 0 [] [4], pz 0 [] [6], pz 1 [0] [], pz 5 [2] [], pz 15 [3, 1] [], pz 31 [4] [], pz 63 [5] [], pz 1 [0] [], pz 129 [7] [], pz 511 [8, 1] [], pz 1023 [9, 6] []] [⟨fun y => ao b18 275 (CA [.slice (some ⟨b16, 0, none⟩) ls.length ls.length] .i64 (af.cK (ls.take k)) [.slice po (af.dL (ls.take k)).length co, .int .i64 (af.c9 (ls.take k))]), none, some 10, [5]⟩, ⟨fun y => Row I3 po (af.dL (ls.take k)).length co (af.dL (ls.take k)), none, none, []⟩, ⟨fun y => Row pN (some ⟨b16, 0, none⟩) ls.length ls.length (List.replicate ls.length (0, 0)), none, none, []⟩, ⟨fun y => ao b1 47 [.slice p ls.length cap], none, none, []⟩, ⟨fun y => R, none, none, []⟩, ⟨fun y => ao b18 275 (CA [.slice (some ⟨b16, 0, none⟩) ls.length ls.length] .i64 ((af.cK (ls.take k)).set (((I3.g ls (k : Int))).toNat) (((af.cK (ls.take k)).getD (((I3.g ls (k : Int))).toNat) 0) + 1)) [.slice po (af.dL (ls.take k)).length co, .int .i64 (af.c9 (ls.take k))]), some 10, none, []⟩] F V.mixed ?_
      iterate 2 refine nM ?_
      refine nN ?_
      refine nG V.wH ?_
      refine nV (fun y hA L => il (((I3.g ls (k : Int))).toNat) (by omega) V.oB rfl rfl (by omega)) ?_
      refine nR (fun y FF hA => mR (I3.g ls (k : Int)) V.s3 rfl an (by (simp only [List.length_cons, List.length_nil]; omega)) (by omega) (by omega)) ?_
      refine nV (fun y hA L => dj rfl rfl wI) ?_
      refine nN ?_
      refine nG V.wH ?_
      refine nV (fun y hA L => il (((I3.g ls (k : Int))).toNat) (by omega) V.oB rfl rfl (by omega)) ?_
      refine nE (fun y FF hA => du (yT (I3.g ls (k : Int)) V.s3 rfl rfl (by exact cZ) (by (simp only [List.length_cons, List.length_nil]; omega)) (by omega) (by omega)) ⟨rfl, .refl _⟩) ?_
      refine aU ?_
      intro y hA
      clear hA
      refine ba ?_
      refine bZ _ (.cons (d := 1) rfl (.cons (d := 4) rfl (.cons (d := 5) rfl (.cons (d := 6) rfl (.cons (d := 19) rfl (.cons (d := 20) rfl (.cons (d := 21) rfl (.nil _)))))))) ?_
      refine bP (M := Row I3 po (af.dL (ls.take k)).length co (af.dL (ls.take k)) :: Row pN (some ⟨b16, 0, none⟩) ls.length ls.length (List.replicate ls.length (0, 0)) :: ao b1 47 [.slice p ls.length cap] :: R :: ao b18 275 (CA [.slice (some ⟨b16, 0, none⟩) ls.length ls.length] .i64 ((af.cK (ls.take k)).set (((I3.g ls (k : Int))).toNat) (((af.cK (ls.take k)).getD (((I3.g ls (k : Int))).toNat) 0) + 1)) [.slice po (af.dL (ls.take k)).length co, .int .i64 (af.c9 (ls.take k))]) :: F) (fun _ _ h => h) ?_
      refine rC dK 6 rfl ?_
      refine oV (lI (n := 16) 0 V.kV rfl jz (by (simp only [List.length_set]; omega)) rfl rfl) ?_
      refine oV (aJ rfl) ?_
      refine eb (I3) [(k : Int)] V.cQ V.z3 rfl rfl rfl rfl rfl rfl ?_
      intro b50
      refine ef (c := (I3)) V.cQ V.z3 rfl rfl rfl rfl az (own an) (by omega) rfl ?_
      intro p51 c51
      refine rO dK 2 rfl ?_
      refine aT (we (n := 16) 0 V.kV rfl rfl rfl (by exact CV) (by (simp only [List.length_set]; omega)) rfl (by exact Nat.le_of_ble_eq_true rfl) rfl) ?_
      refine rO dK 7 rfl ?_
      refine oV (lI (n := 16) 1 V.s3 rfl NP (by (simp only [List.length_set]; omega)) rfl rfl) ?_
      refine oV (aJ rfl) ?_
      refine oV (zO rfl rfl) ?_
      refine rO dK 2 rfl ?_
      refine aT (we (n := 16) 1 V.s3 rfl rfl rfl (by exact CV) (by (simp only [List.length_set]; omega)) rfl (by exact Nat.le_of_ble_eq_true rfl) rfl) ?_
      refine cS dK 7 rfl (by omega) ?_
      have hok2 := af.zk hok (by omega)
      (obtain ⟨e1, e2, e3, e4⟩ := af.step_pos hk2 (hg.trans hg2) (by omega) (by omega); rw [e1, e2, e3, e4]; exact j3 (k + 1) _ _ ⟨⟨by omega, hok2⟩, by omega⟩ (dp ln) (sub (.cons j6 (ar (.cons az (.cons az (.cons az .nil))))) cC))
     ·refine fL dK 7 rfl (by omega) ?_
      have hok2 := af.zk hok (by omega)
      (obtain ⟨e1, e2, e3⟩ := af.CC hk2 (hg.trans hg2) (by omega); rw [← e1, ← e2, ← e3]; exact j3 (k + 1) _ _ ⟨⟨by omega, hok2⟩, by omega⟩ (dp ln) (sub (pc .nil) aw))
  ·refine rC dK 7 rfl ?_
   have hkn : k = ls.length := by omega
   subst hkn
   rw [List.take_length] at *
   have hvv := af.G4 hok (Nat.le_refl _)
   have hcl := af.kg ls
   have hE0 := af.Gh (by omega) hvv
   refine wN [pz 0 [] [4], pz 1 [0] [], pz 3 [1] [], pz 7 [2] [], pz 0 [] [4], pz 16 [4] [], pz 48 [5] [], pz 112 [6] [], pz 240 [7] [], pz 511 [3, 8] [], pz 1023 [9] []] [⟨fun y => ao b18 275 (CA [.slice (some ⟨b16, 0, none⟩) ls.length ls.length] .i64 (af.cK ls) [.slice po (af.dL ls).length co, .int .i64 (af.c9 ls)]), none, none, [3, 7]⟩, ⟨fun y => Row I3 po (af.dL ls).length co (af.dL ls), none, none, []⟩, ⟨fun y => Row pN (some ⟨b16, 0, none⟩) ls.length ls.length (List.replicate ls.length (0, 0)), none, none, []⟩, ⟨fun y => ao b1 47 [.slice p ls.length cap], none, none, []⟩, ⟨fun y => R, none, none, []⟩] F V.mixed ?_
   refine nM ?_
   refine nN ?_
   refine nG V.wH ?_
   refine nR (fun y FF hA => Bt V.a229 rfl an (by omega) rfl) ?_
   refine nM ?_
   refine nN ?_
   refine nG V.Ji ?_
   refine nR (fun y FF hA => lI (n := 16) 0 V.kV rfl an (by omega) rfl rfl) ?_
   refine nV (fun y hA L => eu (ty' := 0) Tryz.underlying47 rfl) ?_
   refine nE (fun y FF hA => bK (Post := []) (GF (af.cK ls) _ (af.kg _) (af.o0 (by omega))) V.Pn rfl .nil (fun v G h => by rcases h with ⟨rfl, rfl⟩; exact ⟨rfl, .refl _⟩)) ?_
   refine nV (fun y hA L => kO rfl) ?_
   refine aU ?_
   intro y hA
   clear hA
   refine ba ?_
   refine bZ _ (.cons (d := 1) rfl (.cons (d := 4) rfl (.cons (d := 74) rfl (.nil _)))) ?_
   refine bP (M := ao b18 275 (CA [.slice (some ⟨b16, 0, none⟩) ls.length ls.length] .i64 (af.cK ls) [.slice po (af.dL ls).length co, .int .i64 (af.c9 ls)]) :: Row I3 po (af.dL ls).length co (af.dL ls) :: Row pN (some ⟨b16, 0, none⟩) ls.length ls.length (List.replicate ls.length (0, 0)) :: ao b1 47 [.slice p ls.length cap] :: R :: F) (fun _ _ h => h) ?_
   refine tj rfl (fun h74 => ?_) (fun h74 => ?_)
   ·refine rC dK 1 rfl ?_
    have hE : af.bU ls = 4 := by rw [hE0, if_neg (by simpa using h74)]
    refine rC dK 7 rfl ?_
    exact ak (fy rfl rfl) (.inr ⟨by rw [hE]; decide, by rw [hE], rfl⟩) (sub (.cons jA .nil) mw)
   ·refine rC dK 3 rfl ?_
    have hE : af.bU ls = 0 := by rw [hE0, if_pos (by simpa using h74)]
    have hV := (af.lH hE).1
    have hW := (af.lH hE).2
    have hpl := af.wo hV
    have hpn := af.tN ls
    refine JX (A := [ao b1 47 [.slice p ls.length cap], R]) (.cons ed (.cons ed .nil)) ?_
    refine rC dK 4 rfl ?_
    refine oV (lI (n := 16) 0 V.kV rfl bW (by omega) rfl rfl) ?_
    refine oV (zV (fs := []) (cs := [_]) rfl rfl) ?_
    refine ai (G7 po (af.dL ls).length co 217 [] [.pointer (some ⟨b1, 0, none⟩)] (pK [ao b1 47 [.slice p ls.length cap], R]) (af.key ls) (fun x => 0 ≤ x ∧ x < ls.length) V.PU (fun x y hx hy => (KH p ls.length cap ls R hR b1 x y hx hy).star) (af.dL ls) (by omega) (af.Hh ls)) V.O6  rfl (.cons bX (ar .nil)) rfl ?_
    rintro _ _ ⟨rfl, l2, hR2, hS2, rfl⟩
    obtain rfl := af.Ey hvv hR2 hS2
    refine rO dK 3 rfl ?_
    refine Dy az ?_
    rw [hpl]
    refine rC dK 11 rfl ?_
    refine oV (lI (n := 16) 0 V.kV rfl eI (by omega) rfl rfl) ?_
    refine rO dK 5 rfl ?_
    rw [← af.xM]
    refine dX (fun (k : Nat) => [(1, .pointer (some ⟨b1, 0, none⟩)), (4, .pointer (some ⟨b18, 0, none⟩)), (7, .int .i64 (af.w8 ls k)), (8, .int .i64 (af.ni ls k)), (84, .slice po (af.ord ls).length co), (85, .int .i64 ((af.ord ls).length : Int)), (86, .int .i64 (k : Int))]) (fun (k : Nat) => ao b18 275 (CA [.slice (some ⟨b16, 0, none⟩) ls.length ls.length] .i64 (af.cK ls) [.slice po (af.ord ls).length co, .int .i64 (af.c9 ls)]) :: Row I3 po (af.ord ls).length co (af.ord ls) :: Row pN (some ⟨b16, 0, none⟩) ls.length ls.length (af.iS ls k) :: ao b1 47 [.slice p ls.length cap] :: R :: F) (fun (k : Nat) => k ≤ (af.ord ls).length) (fun (k : Nat) => (af.ord ls).length - k) (i1 (0) ?_ (ku (dp ln)) (sub (.cons ed (.cons bX (.cons bX (bD .nil)))) aw)) ?_
    ·exact Nat.zero_le _
    intro k
    rintro hk
    refine rL dK 6 rfl ?_
    refine aN rfl (fun h87 => ?_) (fun h87 => ?_)
    ·refine rC dK 5 rfl ?_
     have hk2 : k < (af.ord ls).length := by omega
     obtain ⟨s, hs⟩ := af.O0 hW hk2
     have hgs : I3.g (af.ord ls) (k : Int) = (s : Int) := by rw [← hs.sym]; simp [Ec.g]
     have hsl := hs.lt
     refine a7 ?_
     refine oV (xI V.cQ (own bW)) ?_
     refine oV (xL V.s3 (own bW)) ?_
     refine rO dK 4 rfl ?_
     rw [hgs]
     have hls : I3.g ls (s : Int) = (af.lenOf ls s : Int) := by rw [← hs.len]; simp [Ec.g]
     have hs1 := hs.top
     have hs2 := hs.nn
     have ng := hs.ge
     have hs4 := hs.w0
     have hs5 : af.fS ls s < 32768 := by have := af.pB hs.top; have := hs.w1; omega
     refine rC dK 2 rfl ?_
     refine oV (ae V.kV rfl eI rfl) ?_
     refine oV (aJ rfl) ?_
     refine oV (xI V.cQ (by exact bE hR jz)) ?_
     refine oV (xL V.s3 (by exact bE hR jz)) ?_
     refine cS dK 2 rfl (by omega) ?_
     refine oV (fX (r := af.fS ls s) rfl rfl (by omega) (D7 hs hls)) ?_
     refine rO dK 5 rfl ?_
     refine oV (ae V.kV rfl eI rfl) ?_
     refine oV (aJ rfl) ?_
     refine oV (xI V.cQ (by exact bE hR jz)) ?_
     refine oV (xL V.s3 (by exact bE hR jz)) ?_
     refine rO dK 4 rfl ?_
     rw [hls]
     refine rC dK 4 rfl ?_
     refine oV (ae V.OL rfl an rfl) ?_
     refine rO dK 3 rfl ?_
     refine oV (cD V.Mp V.Jr rfl (cs := [_, _]) rfl) ?_
     refine oV (xI V.FN (own dH)) ?_
     refine aT (EU (c := (pN)) ((af.fS ls s, (af.lenOf ls s : Int))) V.Pj rfl rfl (by exact nb) (by omega) (by omega) rfl) ?_
     refine cS dK 13 rfl (by omega) ?_
     have en : af.fS ls s + 1 = af.w8 ls (k + 1) := by simp only [af.w8]; rw [hs.sym]; simp
     have el : (af.lenOf ls s : Int) = af.ni ls (k + 1) := by simp only [af.ni]; rw [hs.sym]; simp
     rw [Int.toNat_natCast, ← af.xJ hk2 hs, en, el]
     refine j1 (k + 1) ?_ (ku (dp ln)) (sub (pc .nil) aw)
     exact ⟨by omega, by omega⟩
    ·refine rC dK 13 rfl ?_
     exact ak (fy rfl rfl) (.inl ⟨hE, b18, rfl, rfl⟩) ((aX (ar (.cons az (.cons dS .nil))) aw (fun w0 h hh => o5 (af.zR hV (by omega)) hh)).trans (sub (ar (.cons az .nil)) cC))
end Go.Proofs.YtmaiakpjgomnpaaGreat
namespace Go.Proofs.YtmaiakpjgomnpaaGreat
open Go.Sl 
theorem eF : dR Tryz.prog ⟨[], [(156, 2, 2), (236, 0, 0)]⟩ = true := by kernel_rfl
theorem oo (p : Option Addr) (cap : Nat) (B : List Int) (R : ab) (hR : ∀ w0 h, R w0 h → aR U5 p B.length B w0 h) (hl : B.length < 500000000) : aE Tryz.prog 91 [.slice p B.length cap] [R] (aO fun v G => ∃ q c, v = .slice q B.length c ∧ G = [Row U5 q B.length c B, R]) := by
 refine au [(0, _)] Tryz.func91 rfl Tryz.ntmps91 rfl rfl ?_
 intro w0 F
 refine iV (fun w hi => Jb (List.mem_cons_self ..) hR hi) (fun hp => ?_)
 refine rT eF 9 rfl ?_
 refine oV (Ef Tryz.underlying22 rfl rfl) ?_
 refine rO eF 2 rfl ?_
 refine tj rfl (fun h4 => ?_) (fun h4 => ?_)
 ·refine rC eF 7 rfl ?_
  obtain rfl : p = none := by cases p with | none => rfl | some _ => simp at h4
  obtain rfl : B = [] := hp rfl
  exact ak (aB rfl) ⟨none, 0, rfl, rfl⟩ ((ee (fun w0 => Row.nil _ _ _)).trans (sub (bD .nil) aw))
 ·refine rC eF 4 rfl ?_
  refine eb (U5) [] V.cy V.z5 rfl rfl rfl rfl rfl rfl ?_
  intro b5
  refine oV (aJ rfl) ?_
  refine ef (c := (U5)) V.cy V.z5 rfl rfl rfl rfl dS (by exact bE hR bW) (by omega) rfl ?_
  intro p7 c7
  refine rO eF 4 rfl ?_
  exact ak (aB rfl) ⟨p7, c7, by rw [Nat.zero_add], by rw [Nat.zero_add, List.nil_append]⟩ (sub (bD .nil) aw)
theorem xC (b : Nat) (B : List Int) (at_ : Nat) (out : List Int) (free : Int) (hl : B.length < 500000000) (ha : at_ ≤ 8 * B.length) : aE Tryz.prog 128 [.pointer (some ⟨b, 0, none⟩)] [LW b B at_ out free] (aO fun v G => v = .int .i64 (8 * (B.length : Int) - (at_ : Int)) ∧ G = [LW b B at_ out free]) := by
 refine au [(0, _)] Tryz.func128 rfl Tryz.ntmps128 rfl rfl ?_
 intro w0 F
 refine gC (fun h hh => hh) ?_
 rintro ⟨p1, c1, p2, c2⟩ _
 dsimp only
 refine rT eF 6 rfl ?_
 refine wN [pz 0 [] [0], pz 1 [0] [], pz 3 [1] [], pz 7 [2] [], pz 15 [3] [], pz 31 [4] [], pz 0 [] [0], pz 64 [6] [], pz 192 [7] [], pz 448 [8] [], pz 1023 [5, 9] [], pz 2047 [10] []] [⟨fun y => ao b 236 [.slice p1 B.length c1, .slice p2 out.length c2, .int .i64 (at_ : Int), .int .i64 free], none, none, [3, 9]⟩, ⟨fun y => Row U5 p1 B.length c1 B, none, none, []⟩, ⟨fun y => Row U5 p2 out.length c2 out, none, none, []⟩] F V.mixed ?_
 refine nM ?_
 refine nN ?_
 refine nG V.CG ?_
 refine nR (fun y FF hA => ae V.ez rfl an rfl) ?_
 refine nV (fun y hA L => eu (ty' := 0) Tryz.underlying22 rfl) ?_
 refine nV (fun y hA L => jF rfl rfl wI) ?_
 refine nM ?_
 refine nN ?_
 refine nG V.wE ?_
 refine nR (fun y FF hA => ae V.s3 rfl an rfl) ?_
 refine nV (fun y hA L => gh rfl rfl wI) ?_
 refine nA ?_
 refine aU ?_
 intro y hA
 clear hA
 refine ba ?_
 refine bZ _ (.cons (d := 2) rfl (.nil _)) ?_
 refine bP (M := ao b 236 [.slice p1 B.length c1, .slice p2 out.length c2, .int .i64 (at_ : Int), .int .i64 free] :: Row U5 p1 B.length c1 B :: Row U5 p2 out.length c2 out :: F) (fun _ _ h => h) ?_
 refine rC eF 1 rfl ?_
 exact ak (aB rfl) ⟨rfl, rfl⟩ (aX (ic .nil) aw (fun w0 h hh => o8 hh))
theorem Ny (b : Nat) (B : List Int) (at_ : Nat) (out : List Int) (free : Int) (n : Int) (hl : B.length < 500000000) (ha : at_ ≤ 8 * B.length) (hn : 0 ≤ n ∧ n ≤ 24 ∧ n ≤ 8 * (B.length : Int) - at_) : aE Tryz.prog 92 [.pointer (some ⟨b, 0, none⟩), .int .i64 n] [LW b B at_ out free] (aO fun v G => v = .tuple #[] ∧ G = [LW b B at_ out free]) := by
 refine au [(0, _), (1, _)] Tryz.func92 rfl Tryz.ntmps92 rfl rfl ?_
 intro w0 F
 refine rT eF 3 rfl ?_
 refine oV (aA (bo rfl rfl) (by omega)) ?_
 refine rO eF 2 rfl ?_
 refine ag rfl ?_
 refine oV (aA (a8 rfl rfl) (by omega)) ?_
 refine rO eF 4 rfl ?_
 refine ag rfl ?_
 refine ai (xC b B at_ out free hl ha) V.zU  rfl (ar .nil) rfl ?_
 rintro _ _ ⟨rfl, rfl⟩
 refine ag rfl ?_
 refine oV (aA (a8 rfl rfl) (by omega)) ?_
 refine rO eF 5 rfl ?_
 exact iR fH ⟨rfl, rfl⟩ (sub (ar .nil) aw)
theorem IE (b : Nat) (B : List Int) (at_ : Nat) (out : List Int) (free : Int) (n : Int) (hl : B.length < 500000000) (ha : at_ ≤ 8 * B.length) (hn : 0 ≤ n ∧ n ≤ 24 ∧ 8 * (B.length : Int) - at_ < n) : aE Tryz.prog 92 [.pointer (some ⟨b, 0, none⟩), .int .i64 n] [LW b B at_ out free] (rk fun ch G => ch = ka 194 (.agg #[]) ∧ G = [LW b B at_ out free]) := by
 refine au [(0, _), (1, _)] Tryz.func92 rfl Tryz.ntmps92 rfl rfl ?_
 intro w0 F
 refine rT eF 3 rfl ?_
 refine oV (aA (bo rfl rfl) (by omega)) ?_
 refine rO eF 2 rfl ?_
 refine ag rfl ?_
 refine oV (aA (a8 rfl rfl) (by omega)) ?_
 refine rO eF 4 rfl ?_
 refine ag rfl ?_
 refine ai (xC b B at_ out free hl ha) V.zU  rfl (ar .nil) rfl ?_
 rintro _ _ ⟨rfl, rfl⟩
 refine ag rfl ?_
 refine oV (aY (a8 rfl rfl) (by omega)) ?_
 refine rO eF 5 rfl ?_
 refine oV (cD V.M6 V.z194 rfl (cs := []) rfl) ?_
 refine oV (uw V.zI rfl) ?_
 refine uf rfl ?_
 skip
 exact wU (G := [LW b B at_ out free]) ⟨rfl, rfl⟩ (sub (ar .nil) aw)
theorem Jv (b : Nat) (B : List Int) (at_ : Nat) (out : List Int) (free : Int) (hl : B.length < 500000000) (hB : aj.av B) (ha : at_ < 8 * B.length) : aE Tryz.prog 204 [.pointer (some ⟨b, 0, none⟩)] [LW b B at_ out free] (aO fun v G => v = .int .i64 (aj.jf B at_) ∧ G = [LW b B (at_ + 1) out free]) := by
 refine au [(0, _)] Tryz.func204 rfl Tryz.ntmps204 rfl rfl ?_
 intro w0 F
 refine gC (fun h hh => hh) ?_
 rintro ⟨p1, c1, p2, c2⟩ _
 dsimp only
 have hq : U5.g B ((at_ : Int) / 8) = B.getD (at_ / 8) 0 := gE (at_ / 8) (by omega)
 have hb := hB.get (at_ / 8)
 have hd := aj.xD hb.1 hb.2 (at_ % 8)
 have hb2 := aj.mJ B at_
 refine rT eF 6 rfl ?_
 refine wN [pz 0 [] [0], pz 1 [0] [], pz 3 [1] [], pz 7 [2] [], pz 15 [3] [], pz 0 [] [0], pz 32 [5] [], pz 96 [6] [], pz 224 [7] [], pz 480 [8] [], pz 992 [9] [], pz 2047 [4, 10] [], pz 4095 [11] [], pz 0 [] [0], pz 8192 [13] [], pz 24576 [14] [], pz 57344 [15] [], pz 122880 [16] [], pz 253952 [17] [], pz 524287 [12, 18] [], pz 1048575 [19] []] [⟨fun y => ao b 236 [.slice p1 B.length c1, .slice p2 out.length c2, .int .i64 (at_ : Int), .int .i64 free], none, none, [4, 9, 17]⟩, ⟨fun y => Row U5 p1 B.length c1 B, none, none, [11, 12]⟩, ⟨fun y => Row U5 p2 out.length c2 out, none, none, []⟩] F V.mixed ?_
 refine nM ?_
 refine nN ?_
 refine nG V.vr ?_
 refine nG V.CG ?_
 refine nR (fun y FF hA => ae V.ez rfl an rfl) ?_
 refine nM ?_
 refine nN ?_
 refine nG V.vr ?_
 refine nG V.wE ?_
 refine nR (fun y FF hA => ae V.s3 rfl an rfl) ?_
 refine nV (fun y hA L => fR rfl rfl (by omega) (jH (by omega) (by omega) (by omega))) ?_
 refine nR (fun y FF hA => xI V.cy (own an)) ?_
 refine nR (fun y FF hA => xL V.s5 (own an)) ?_
 refine nM ?_
 refine nN ?_
 refine nG V.vr ?_
 refine nG V.wE ?_
 refine nR (fun y FF hA => ae V.s3 rfl an rfl) ?_
 refine nV (fun y hA L => hG rfl rfl (by omega) (jE (by omega))) ?_
 refine nV (fun y hA L => eg (r := B.getD (at_ / 8) 0 / 2 ^ (at_ % 8)) rfl rfl (by omega) (by rw [hq]; exact aj.Ma hb.1 (by omega) (by omega))) ?_
 refine nA ?_
 refine aU ?_
 intro y hA
 clear hA
 refine ba ?_
 refine bZ _ (.cons (d := 0) rfl (.cons (d := 3) rfl (.nil _))) ?_
 refine bP (M := ao b 236 [.slice p1 B.length c1, .slice p2 out.length c2, .int .i64 (at_ : Int), .int .i64 free] :: Row U5 p1 B.length c1 B :: Row U5 p2 out.length c2 out :: F) (fun _ _ h => h) ?_
 refine rC eF 6 rfl ?_
 refine oV (ae V.s3 rfl an rfl) ?_
 refine cS eF 4 rfl (by omega) ?_
 refine aT (bT V.s3 rfl rfl rfl (by exact cZ) (by exact Nat.le_of_ble_eq_true rfl) rfl) ?_
 refine rO eF 5 rfl ?_
 refine oV (j0 (r := aj.jf B at_) rfl rfl (aj.xc hd.1 hd.2)) ?_
 refine oV (bC V.u5 Tryz.underlying3 rfl wI) ?_
 refine rO eF 4 rfl ?_
 rw [show (at_ : Int) + 1 = ((at_ + 1 : Nat) : Int) from by omega]
 exact ak (aB rfl) ⟨rfl, rfl⟩ (aX (ic .nil) aw (fun w0 h hh => o8 hh))
theorem fK (b : Nat) (B : List Int) (at_ : Nat) (out : List Int) (free : Int) (n : Nat) (hl : B.length < 500000000) (hB : aj.av B) (hn : n ≤ 24) (ha : at_ + n ≤ 8 * B.length) : aE Tryz.prog 183 [.pointer (some ⟨b, 0, none⟩), .int .i64 (n : Int)] [LW b B at_ out free] (aO fun v G => v = .int .i64 (aj.aS B at_ n) ∧ G = [LW b B (at_ + n) out free]) := by
 refine au [(0, _), (1, _)] Tryz.func183 rfl Tryz.ntmps183 rfl rfl ?_
 intro w0 F
 refine rT eF 11 rfl ?_
 refine ai (Ny b B at_ out free n hl (by omega) (by omega)) V.Jl  rfl (ar .nil) rfl ?_
 rintro _ _ ⟨rfl, rfl⟩
 refine rO eF 15 rfl ?_
 refine dX (fun (k : Nat) => [(0, .pointer (some ⟨b, 0, none⟩)), (5, .int .i64 (aj.aS B at_ k)), (12, .int .i64 (n : Int)), (13, .int .i64 (k : Int))]) (fun (k : Nat) => LW b B (at_ + k) out free :: F) (fun (k : Nat) => k ≤ n) (fun (k : Nat) => n - k) (i1 (0) ?_ (fZ ln) (sub (ar .nil) aw)) ?_
 ·exact Nat.zero_le _
 intro k
 rintro hk
 refine rL eF 6 rfl ?_
 refine aN rfl (fun h14 => ?_) (fun h14 => ?_)
 ·refine rC eF 10 rfl ?_
  have hb := aj.mJ B (at_ + k)
  have hnb := aj.cF B at_ k
  refine rC eF 3 rfl ?_
  refine ai (Jv b B (at_ + k) out free hl hB (by omega)) V.OG  rfl (ar .nil) rfl ?_
  rintro _ _ ⟨rfl, rfl⟩
  refine oV (aJ rfl) ?_
  refine oV (fX (r := aj.jf B (at_ + k) * 2 ^ k) rfl rfl (by omega) (aj.Nb hb (by omega) rfl)) ?_
  refine oV (mW (r := aj.aS B at_ k + aj.jf B (at_ + k) * 2 ^ k) rfl rfl (aj.Mg hnb.1 hnb.2 hb (by omega))) ?_
  refine cS eF 8 rfl (by omega) ?_
  refine j1 (k + 1) ?_ (fZ ln) (sub (ar .nil) aw)
  exact ⟨by omega, by omega⟩
 ·refine rC eF 12 rfl ?_
  obtain rfl : k = n := by omega
  exact ak (aB rfl) ⟨rfl, rfl⟩ (sub (ar .nil) aw)
theorem gv (b : Nat) (B : List Int) (at_ : Nat) (out : List Int) (free : Int) (n : Nat) (hl : B.length < 500000000) (hB : aj.av B) (hn : n ≤ 24) (ha : at_ ≤ 8 * B.length) (hx : 8 * B.length < at_ + n) : aE Tryz.prog 183 [.pointer (some ⟨b, 0, none⟩), .int .i64 (n : Int)] [LW b B at_ out free] (rk fun ch G => ch = ka 194 (.agg #[]) ∧ G = [LW b B at_ out free]) := by
 refine au [(0, _), (1, _)] Tryz.func183 rfl Tryz.ntmps183 rfl rfl ?_
 intro w0 F
 refine rT eF 11 rfl ?_
 refine dD (IE b B at_ out free n hl ha (by omega)) V.Jl rfl (ar .nil) ?_
 rintro _ _ ⟨rfl, rfl⟩
 refine (dT ?_)
 exact wU (G := [LW b B at_ out free]) ⟨rfl, rfl⟩ (sub (ar .nil) aw)
theorem LZ (b : Nat) (B : List Int) (at_ : Nat) (out : List Int) (free : Int) (hl : B.length < 500000000) (ha : at_ ≤ 8 * B.length) : aE Tryz.prog 170 [.pointer (some ⟨b, 0, none⟩)] [LW b B at_ out free] (aO fun v G => v = .int .i64 (8 * (B.length : Int) - (at_ : Int)) ∧ G = [LW b B at_ out free]) := by
 refine au [(0, _)] Tryz.func170 rfl Tryz.ntmps170 rfl rfl ?_
 intro w0 F
 refine rT eF 9 rfl ?_
 refine oV (cH (v := .bool false) (iL Tryz.underlying219 rfl rfl) rfl) ?_
 refine rO eF 10 rfl ?_
 refine ai (xC b B at_ out free hl ha) V.zU  rfl (ar .nil) rfl ?_
 rintro _ _ ⟨rfl, rfl⟩
 refine rO eF 4 rfl ?_
 exact ak (aB rfl) ⟨rfl, rfl⟩ (sub (ar .nil) aw)
theorem xb (p : Option Addr) (cap : Nat) (B : List Int) (R : ab) (hR : ∀ w0 h, R w0 h → aR U5 p B.length B w0 h) (hl : B.length < 500000000) : aE Tryz.prog 166 [.slice p B.length cap] [R] (aO fun v G => ∃ b, v = .pointer (some ⟨b, 0, none⟩) ∧ G = [LW b B 0 [] 0, R]) := by
 refine au [(0, _)] Tryz.func166 rfl Tryz.ntmps166 rfl rfl ?_
 intro w0 F
 refine rT eF 8 rfl ?_
 refine ai (oo p cap B R hR hl) V.yg  rfl (ar .nil) rfl ?_
 rintro _ _ ⟨q, c, rfl, rfl⟩
 refine oV (cD V.F7 V.z156 rfl (cs := [.slice q B.length c, .slice none 0 0, .int .i64 0, .int .i64 0]) rfl) ?_
 refine oV (cD V.Nn V.z236 rfl (cs := [.slice q B.length c, .slice none 0 0, .int .i64 0, .int .i64 0]) rfl) ?_
 refine eL rfl (cs := [.slice q B.length c, .slice none 0 0, .int .i64 0, .int .i64 0]) rfl rfl ?_
 intro b7
 refine rO eF 4 rfl ?_
 exact ak (aB rfl) ⟨b7, rfl, rfl⟩ ((ee (A := Row U5 none 0 0 []) (fun w0 => Row.nil _ _ _)).trans ((aX (.cons az (.cons az (ar .nil))) aw (fun w0 h hh => o8 (p1 := q) (c1 := c) (p2 := none) (c2 := 0) (B := B) (out := []) (at_ := 0) (free := 0) hh)).trans (sub (bD .nil) aw)))
end Go.Proofs.YtmaiakpjgomnpaaGreat
namespace Go.Proofs.YtmaiakpjgomnpaaGreat
open Go.Sl 
theorem Q8 : dR Tryz.prog ⟨[], [(151, 1, 1), (151, 2, 2), (151, 3, 3)]⟩ = true := by kernel_rfl
end Go.Proofs.YtmaiakpjgomnpaaGreat
namespace Go.Proofs.YtmaiakpjgomnpaaGreat
open Go.Sl 
theorem Rm : dR Tryz.prog ⟨[47], [(231, 0, 0), (231, 1, 16)]⟩ = true := by kernel_rfl
attribute [local irreducible] af.ord af.iS af.dL af.cK af.c9 af.words af.fS af.lenOf af.bU af.gH
attribute [local irreducible] af.PH af.sy
end Go.Proofs.YtmaiakpjgomnpaaGreat
