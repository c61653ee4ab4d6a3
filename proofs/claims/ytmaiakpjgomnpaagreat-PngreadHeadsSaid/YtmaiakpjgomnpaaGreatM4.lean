/- Walks of functions that the law reaches, and what they lean on; no conditions. -/
import Derived.Test.YtmaiakpjgomnpaaGreatM3
import Derived.Test.YtmaiakpjgomnpaaGreatM1
import Derived.Test.YtmaiakpjgomnpaaGreatM2
import Derived.Test.YtmaiakpjgomnpaaGreatProg
import Derived.KernelRfl
set_option linter.unusedVariables false
set_option linter.unusedSimpArgs false
set_option maxRecDepth 100000
namespace Go.aa
open Go.ak Go.Sl
theorem LI (a b : Int) : (if a - b < b - a then b - a else a - b) = off a b := by unfold off; split <;> omega
theorem PL (a b c : Int) : (off (a + b - c) a ≤ off (a + b - c) b ∧ off (a + b - c) a ≤ off (a + b - c) c ∧ rF a b c = a) ∨ (off (a + b - c) a ≤ off (a + b - c) b ∧ ¬ off (a + b - c) a ≤ off (a + b - c) c ∧ off (a + b - c) b ≤ off (a + b - c) c ∧ rF a b c = b) ∨ (off (a + b - c) a ≤ off (a + b - c) b ∧ ¬ off (a + b - c) a ≤ off (a + b - c) c ∧ ¬ off (a + b - c) b ≤ off (a + b - c) c ∧ rF a b c = c) ∨
    (¬ off (a + b - c) a ≤ off (a + b - c) b ∧ off (a + b - c) b ≤ off (a + b - c) c ∧ rF a b c = b) ∨ (¬ off (a + b - c) a ≤ off (a + b - c) b ∧ ¬ off (a + b - c) b ≤ off (a + b - c) c ∧ rF a b c = c) := by
  unfold rF
  by_cases h1 : off (a + b - c) a ≤ off (a + b - c) b
  · by_cases h2 : off (a + b - c) a ≤ off (a + b - c) c
    · exact .inl ⟨h1, h2, if_pos ⟨h1, h2⟩⟩
    · rw [if_neg (fun h => h2 h.2)]
      by_cases h3 : off (a + b - c) b ≤ off (a + b - c) c
      · exact .inr (.inl ⟨h1, h2, h3, if_pos h3⟩)
      · exact .inr (.inr (.inl ⟨h1, h2, h3, if_neg h3⟩))
  · rw [if_neg (fun h => h1 h.1)]
    by_cases h3 : off (a + b - c) b ≤ off (a + b - c) c
    · exact .inr (.inr (.inr (.inl ⟨h1, h3, if_pos h3⟩)))
    · exact .inr (.inr (.inr (.inr ⟨h1, h3, if_neg h3⟩)))
def rJ (l : List Int) (j : Int) : Int := if j < 0 then 0 else l.getD j.toNat 0
theorem Py (l : List Int) (j : Int) : (j < 0 ∧ rJ l j = 0) ∨ (¬ j < 0 ∧ (l.length : Int) ≤ j ∧ rJ l j = 0) ∨ (¬ j < 0 ∧ ¬ (l.length : Int) ≤ j ∧ rJ l j = l.getD j.toNat 0) := by
  unfold rJ
  by_cases h1 : j < 0
  · exact .inl ⟨h1, if_pos h1⟩
  rw [if_neg h1]
  by_cases h2 : (l.length : Int) ≤ j
  · refine .inr (.inl ⟨h1, h2, ?_⟩)
    rw [List.getD_eq_getElem?_getD, List.getElem?_eq_none (by omega)]; rfl
  · exact .inr (.inr ⟨h1, h2, rfl⟩)
theorem C0 (l : List Int) (i back : Nat) : rJ l ((i : Int) - (back : Int)) = gz l i back := by
  unfold rJ gz
  by_cases h : i < back
  · rw [if_pos (by omega), if_pos h]
  · rw [if_neg (by omega), if_neg h, show ((i : Int) - (back : Int)).toNat = i - back by omega]
theorem HQ (l : List Int) (i : Nat) : rJ l (i : Int) = l.getD i 0 := by
  unfold rJ; rw [if_neg (by omega), Int.toNat_natCast]
theorem P4 (kind a b c : Int) : (kind = 1 ∧ pB kind a b c = a) ∨ (kind ≠ 1 ∧ kind = 2 ∧ pB kind a b c = b) ∨ (kind ≠ 1 ∧ kind ≠ 2 ∧ kind = 3 ∧ pB kind a b c = (a + b) / 2) ∨ (kind ≠ 1 ∧ kind ≠ 2 ∧ kind ≠ 3 ∧ kind = 4 ∧ pB kind a b c = rF a b c) ∨ (kind ≠ 1 ∧ kind ≠ 2 ∧ kind ≠ 3 ∧ kind ≠ 4 ∧ pB kind a b c = 0) := by
  unfold pB
  by_cases h1 : kind = 1
  · exact .inl ⟨h1, if_pos h1⟩
  rw [if_neg h1]
  by_cases h2 : kind = 2
  · exact .inr (.inl ⟨h1, h2, if_pos h2⟩)
  rw [if_neg h2]
  by_cases h3 : kind = 3
  · exact .inr (.inr (.inl ⟨h1, h2, h3, if_pos h3⟩))
  rw [if_neg h3]
  by_cases h4 : kind = 4
  · exact .inr (.inr (.inr (.inl ⟨h1, h2, h3, h4, if_pos h4⟩)))
  · exact .inr (.inr (.inr (.inr ⟨h1, h2, h3, h4, if_neg h4⟩)))
def jN (kind : Int) (row above : List Int) (back i : Nat) : List Int := jD kind row above back i ++ List.replicate (row.length - i) 0
theorem EY {kind : Int} {row above : List Int} {back i : Nat} (h : i ≤ row.length) : (jN kind row above back i).length = row.length := by
  unfold jN; rw [List.length_append, nc, List.length_replicate]; omega
theorem K7 (kind : Int) (row above : List Int) (back : Nat) : jN kind row above back 0 = List.replicate row.length 0 := by simp [jN, jD]
theorem DW (kind : Int) (row above : List Int) (back : Nat) : jN kind row above back row.length = gw kind row above back := by simp [jN, gw]
theorem D9 {kind : Int} {row above : List Int} {back i : Nat} : az (jN kind row above back i) := fun x hx => by
  rcases List.mem_append.1 hx with h | h
  · exact rK kind row above back i x h
  · rw [List.eq_of_mem_replicate h]; decide
theorem yk {a : List Int} {x v : Int} {b : List Int} {i : Nat} (ha : a.length = i) : (a ++ x :: b).set i v = a ++ v :: b := by
  subst ha; rw [List.set_append_right _ _ (Nat.le_refl _), Nat.sub_self]; rfl
theorem Ek {kind : Int} {row above : List Int} {back i : Nat} (h : i < row.length) : (jN kind row above back i).set i (kt kind row above back (jD kind row above back i) i) = jN kind row above back (i + 1) := by
  unfold jN
  rw [show row.length - i = (row.length - (i + 1)) + 1 by omega, List.replicate_succ, yk (nc ..), jD, List.append_assoc]
  rfl
theorem GV {kind : Int} {row above : List Int} {back i : Nat} (hb : 0 < back) : gz (jN kind row above back i) i back = gz (jD kind row above back i) i back := IJ (nc ..) hb
def OX (kind : Int) (row above : List Int) (back i : Nat) : List Int := jD kind row above back i ++ row.drop i
theorem Gu {kind : Int} {row above : List Int} {back i : Nat} {x y : Int} (hx : x = row.getD i 0) (hy : y = pB kind (gz (jD kind row above back i) i back) (above.getD i 0) (gz above i back)) : (x + y) % 256 = kt kind row above back (jD kind row above back i) i := by rw [hx, hy]; rfl
end Go.aa
namespace Go.aa
open Go.ak Go.Sl
theorem uI (B : List Int) (a : Nat) {n : Nat} (hn : n ≤ 24) : 0 ≤ c4 B a n ∧ c4 B a n < 16777216 := by
  have h := mF B a n
  have h2 : (2 : Nat) ^ n ≤ 2 ^ 24 := Nat.pow_le_pow_right (by decide) hn
  have h3 : (2 : Int) ^ n = ((2 ^ n : Nat) : Int) := by simp
  rw [h3] at h
  omega
theorem N2 {B : List Int} {a k : Nat} (hk : k ≤ 24) : IntKind.i64.wrap (c4 B a k * 2 ^ (min (1 : Int).toNat IntKind.i64.bits)) = 2 * c4 B a k := by
  have h := uI B a hk
  exact Eu h.1 (by omega)
theorem Rj {B : List Int} {a k : Nat} (hk : k ≤ 24) : IntKind.i64.wrap ((BitVec.ofInt IntKind.i64.bits (2 * c4 B a k) ||| BitVec.ofInt IntKind.i64.bits (ij B (a + k))).toNat : Int) = c4 B a (k + 1) := by
  have h := uI B a hk
  rw [CE h.1 (by omega) (rn _ _)]
  rfl
def jC (d : Int) : Prop := d = 1 ∨ d = 2 ∨ d = 4 ∨ d = 8 ∨ d = 16
def up (d v : Int) : Int := v * (65535 / (2 ^ d.toNat - 1))
theorem mP {d : Int} (h : jC d) : (2 : Int) ≤ 2 ^ d.toNat ∧ (2 : Int) ^ d.toNat ≤ 65536 := by rcases h with rfl | rfl | rfl | rfl | rfl <;> decide
theorem jV {d : Int} (h : jC d) : 1 ≤ d ∧ d ≤ 16 := by rcases h with rfl | rfl | rfl | rfl | rfl <;> decide
theorem mN {d : Int} (h : jC d) : IntKind.i64.wrap (1 * 2 ^ (min d.toNat IntKind.i64.bits)) = 2 ^ d.toNat := by rcases h with rfl | rfl | rfl | rfl | rfl <;> decide
theorem iC {c d : Int} (h : deep c d) : jC d := by
  unfold deep at h
  unfold jC
  omega
theorem mn {c d : Int} (h : deep c d) : 1 ≤ parts c ∧ parts c ≤ 4 ∧ 1 ≤ parts c * d ∧ parts c * d ≤ 64 := by
  unfold deep at h
  rcases h with ⟨rfl, h⟩ | ⟨rfl, h⟩ | ⟨rfl | rfl | rfl, h⟩
  · rw [show parts 0 = 1 from rfl]; omega
  · rw [show parts 3 = 1 from rfl]; omega
  · rw [show parts 2 = 3 from rfl]; omega
  · rw [show parts 4 = 2 from rfl]; omega
  · rw [show parts 6 = 4 from rfl]; omega
theorem z8 {d v : Int} (h : jC d) (h0 : 0 ≤ v) (h1 : v < 2 ^ d.toNat) : 0 ≤ up d v ∧ up d v ≤ 65535 := by
  unfold up
  rcases h with rfl | rfl | rfl | rfl | rfl
  · have : v < 2 := h1; simp; omega
  · have : v < 4 := h1; simp; omega
  · have : v < 16 := h1; simp; omega
  · have : v < 256 := h1; simp; omega
  · have : v < 65536 := h1; simp; omega
theorem up_mul {d v P : Int} (hP : P = 2 ^ d.toNat) (h : jC d) (h0 : 0 ≤ v) (h1 : v < P) : IntKind.i64.wrap (v * (65535 / (P - 1))) = up d v := by
  subst hP
  have := z8 h h0 h1
  unfold up at this ⊢
  exact gU (by omega) (by omega)
theorem AJ {n : Int} (h : 0 ≤ n ∧ n ≤ 65535) : IntKind.u16.wrap n = n := by
  have : IntKind.u16.wrap n = n % 65536 := rfl
  omega
theorem Q5 (x : Int) : up 8 x = x * 257 := by unfold up; rfl
theorem GK {d : Int} (h : jC d) : d = 1 ∨ (d ≠ 1 ∧ d = 2) ∨ (d ≠ 1 ∧ d ≠ 2 ∧ d = 4) ∨ (d ≠ 1 ∧ d ≠ 2 ∧ d ≠ 4 ∧ d = 8) ∨ (d ≠ 1 ∧ d ≠ 2 ∧ d ≠ 4 ∧ d ≠ 8 ∧ d = 16) := by
  unfold jC at h
  omega
theorem xH {w h x y : Int} (hx : 0 ≤ x ∧ x < w) (hy : 0 ≤ y ∧ y < h) : 0 ≤ y * w ∧ 0 ≤ y * w + x ∧ y * w + x + 1 ≤ w * h := by
  have h1 : 0 ≤ y * w := Int.mul_nonneg hy.1 (by omega)
  have h2 : (y + 1) * w ≤ h * w := Int.mul_le_mul_of_nonneg_right (by omega) (by omega)
  rw [Int.add_mul, Int.one_mul, Int.mul_comm h w] at h2
  omega
def Ss (w : Int) (dG : List Int) (x y : Int) : List Int := (dG.drop (4 * (y * w + x)).toNat).take 4
theorem D3 {w : Int} {dG : List Int} {x y : Int} {c : List Int} (hc : c.length = 4) (h : (4 * (y * w + x)).toNat + 4 ≤ dG.length) : (l5 w dG x y c).length = dG.length := by
  simp [l5, hc]
  omega
def kc (w1 h1 : Int) (n1 : Nat) (w2 h2 : Int) (n2 : Nat) (L1 L2 : List Int) : Prop := (bS w1 h1 = 0 ∧ (n1 : Int) = 4 * w1 * h1) ∧ (bS w2 h2 = 0 ∧ (n2 : Int) = 4 * w2 * h2) ∧ w1 = w2 ∧ h1 = h2 ∧ L1 = L2
theorem N4 (w1 h1 : Int) (n1 : Nat) (w2 h2 : Int) (n2 : Nat) (L1 L2 : List Int) :
    (¬ (bS w1 h1 = 0 ∧ (n1 : Int) = 4 * w1 * h1) ∧ ¬ kc w1 h1 n1 w2 h2 n2 L1 L2) ∨
    ((bS w1 h1 = 0 ∧ (n1 : Int) = 4 * w1 * h1) ∧ ¬ (bS w2 h2 = 0 ∧ (n2 : Int) = 4 * w2 * h2) ∧ ¬ kc w1 h1 n1 w2 h2 n2 L1 L2) ∨
    ((bS w1 h1 = 0 ∧ (n1 : Int) = 4 * w1 * h1) ∧ (bS w2 h2 = 0 ∧ (n2 : Int) = 4 * w2 * h2) ∧ w1 ≠ w2 ∧ ¬ kc w1 h1 n1 w2 h2 n2 L1 L2) ∨
    ((bS w1 h1 = 0 ∧ (n1 : Int) = 4 * w1 * h1) ∧ (bS w2 h2 = 0 ∧ (n2 : Int) = 4 * w2 * h2) ∧ w1 = w2 ∧ h1 ≠ h2 ∧ ¬ kc w1 h1 n1 w2 h2 n2 L1 L2) ∨
    ((bS w1 h1 = 0 ∧ (n1 : Int) = 4 * w1 * h1) ∧ (bS w2 h2 = 0 ∧ (n2 : Int) = 4 * w2 * h2) ∧ w1 = w2 ∧ h1 = h2 ∧ n1 = n2) := by
  by_cases a : (bS w1 h1 = 0 ∧ (n1 : Int) = 4 * w1 * h1)
  · by_cases b : (bS w2 h2 = 0 ∧ (n2 : Int) = 4 * w2 * h2)
    · by_cases c : w1 = w2
      · by_cases d : h1 = h2
        · exact .inr (.inr (.inr (.inr ⟨a, b, c, d, by subst c; subst d; omega⟩)))
        · exact .inr (.inr (.inr (.inl ⟨a, b, c, d, fun h => d h.2.2.2.1⟩)))
      · exact .inr (.inr (.inl ⟨a, b, c, fun h => c h.2.2.1⟩))
    · exact .inr (.inl ⟨a, b, fun h => b h.2.1⟩)
  · exact .inl ⟨a, fun h => a h.1⟩
theorem Gb {L1 L2 : List Int} {i : Nat} (h : L1.getD i 0 ≠ L2.getD i 0) : L1 ≠ L2 := fun e => h (by rw [e])
theorem C5 {L1 L2 : List Int} (hl : L1.length = L2.length) (h : ∀ j, j < L1.length → L1.getD j 0 = L2.getD j 0) : L1 = L2 := by
  refine List.ext_getElem hl fun j h1 h2 => ?_
  have := h j h1
  rwa [List.getD_eq_getElem?_getD, List.getD_eq_getElem?_getD, List.getElem?_eq_getElem h1, List.getElem?_eq_getElem h2] at this
end Go.aa
namespace Go.aa
open Go.ak Go.Sl
theorem fc (l : List Int) (n i : Nat) : (l.drop n).getD i 0 = l.getD (n + i) 0 := by simp [List.getD_eq_getElem?_getD, List.getElem?_drop]
theorem IF {B : List Int} (hB : az B) (j : Nat) : c4 B (8 * j) 16 * 65536 + c4 B (8 * j + 16) 16 = aL.cW (B.drop j) := by
  rw [qU (hB.get _) (hB.get _), show 8 * j + 16 = 8 * (j + 2) by omega, qU (hB.get _) (hB.get _)]
  unfold aL.cW
  rw [fc, fc, fc, fc]
  simp only [Nat.add_zero]
  rw [show j + 2 + 1 = j + 3 from rfl]
  omega
theorem An (B : List Int) (a : Nat) : 0 ≤ c4 B a 16 ∧ c4 B a 16 < 65536 := by have := mF B a 16; omega
def jX (B : List Int) (a : Nat) : Nat → Int
  | 0 => 0
  | n + 1 => jX B a n * 256 + B.getD (a + n) 0
theorem Kc {B : List Int} (hB : az B) (a : Nat) : ∀ n : Nat, n ≤ 4 → 0 ≤ jX B a n ∧ jX B a n < 4294967296 ∧ (n ≤ 3 → jX B a n < 16777216)
  | 0, _ => by unfold jX; omega
  | 1, _ => by have := hB.get (a + 0); simp only [jX]; omega
  | 2, _ => by have := hB.get (a + 0); have := hB.get (a + 1); simp only [jX]; omega
  | 3, _ => by have := hB.get (a + 0); have := hB.get (a + 1); have := hB.get (a + 2); simp only [jX]; omega
  | 4, _ => by have := hB.get (a + 0); have := hB.get (a + 1); have := hB.get (a + 2); have := hB.get (a + 3); simp only [jX]; omega
theorem Gh (B : List Int) (a : Nat) : jX B a 4 = aL.cW (B.drop a) := by
  unfold aL.cW
  rw [fc, fc, fc, fc]
  simp only [jX]
  omega
def BB (B : List Int) : Hd := if eY B = 0 then aO B else ⟨0, 0, 0, 0, false⟩
theorem tv {B : List Int} (h : eY B = 0) : BB B = aO B := if_pos h
theorem jt {B : List Int} {e : Int} (h : eY B = e) (he : e ≠ 0) : BB B = ⟨0, 0, 0, 0, false⟩ := if_neg (by rw [h]; exact he)
theorem xQ (B : List Int) : (B.length ≠ 13 ∧ eY B = 4) ∨
    (¬ B.length ≠ 13 ∧ ¬ deep (aO B).ay (aO B).dep ∧ eY B = 4) ∨
    (¬ B.length ≠ 13 ∧ deep (aO B).ay (aO B).dep ∧ 0 < B.getD 10 0 + B.getD 11 0 ∧ eY B = 4) ∨
    (¬ B.length ≠ 13 ∧ deep (aO B).ay (aO B).dep ∧ ¬ 0 < B.getD 10 0 + B.getD 11 0 ∧ 1 < B.getD 12 0 ∧ eY B = 4) ∨
    (¬ B.length ≠ 13 ∧ deep (aO B).ay (aO B).dep ∧ ¬ 0 < B.getD 10 0 + B.getD 11 0 ∧ ¬ 1 < B.getD 12 0 ∧ (aO B).w = 0 ∧ eY B = 4) ∨
    (¬ B.length ≠ 13 ∧ deep (aO B).ay (aO B).dep ∧ ¬ 0 < B.getD 10 0 + B.getD 11 0 ∧ ¬ 1 < B.getD 12 0 ∧ ¬ (aO B).w = 0 ∧ (aO B).h = 0 ∧ eY B = 4) ∨
    (¬ B.length ≠ 13 ∧ deep (aO B).ay (aO B).dep ∧ ¬ 0 < B.getD 10 0 + B.getD 11 0 ∧ ¬ 1 < B.getD 12 0 ∧ ¬ (aO B).w = 0 ∧ ¬ (aO B).h = 0 ∧ bS (aO B).w (aO B).h ≠ 0 ∧ eY B = 6) ∨
    (¬ B.length ≠ 13 ∧ deep (aO B).ay (aO B).dep ∧ ¬ 0 < B.getD 10 0 + B.getD 11 0 ∧ ¬ 1 < B.getD 12 0 ∧ ¬ (aO B).w = 0 ∧ ¬ (aO B).h = 0 ∧ ¬ bS (aO B).w (aO B).h ≠ 0 ∧ eY B = 0) := by
  unfold eY
  by_cases h0 : B.length ≠ 13
  · exact .inl ⟨h0, if_pos h0⟩
  refine .inr ?_
  rw [if_neg h0]
  by_cases h1 : deep (aO B).ay (aO B).dep
  case neg => exact .inl ⟨h0, h1, if_pos (.inl h1)⟩
  refine .inr ?_
  by_cases h2 : 0 < B.getD 10 0 + B.getD 11 0
  · exact .inl ⟨h0, h1, h2, if_pos (.inr (.inl h2))⟩
  refine .inr ?_
  by_cases h3 : 1 < B.getD 12 0
  · exact .inl ⟨h0, h1, h2, h3, if_pos (.inr (.inr (.inl h3)))⟩
  refine .inr ?_
  by_cases h4 : (aO B).w = 0
  · exact .inl ⟨h0, h1, h2, h3, h4, if_pos (.inr (.inr (.inr (.inl h4))))⟩
  refine .inr ?_
  by_cases h5 : (aO B).h = 0
  · exact .inl ⟨h0, h1, h2, h3, h4, h5, if_pos (.inr (.inr (.inr (.inr h5))))⟩
  refine .inr ?_
  rw [if_neg (fun h => by
    rcases h with h | h | h | h | h
    · exact h h1
    · exact h2 h
    · exact h3 h
    · exact h4 h
    · exact h5 h)]
  by_cases h6 : bS (aO B).w (aO B).h = 0
  · exact .inr ⟨h0, h1, h2, h3, h4, h5, fun h => h h6, if_pos h6⟩
  · exact .inl ⟨h0, h1, h2, h3, h4, h5, h6, if_neg h6⟩
def fX (c d : Int) : Prop := if c = 0 then d = 1 ∨ d = 2 ∨ d = 4 ∨ d = 8 ∨ d = 16 else if c = 2 ∨ c = 4 ∨ c = 6 then d = 8 ∨ d = 16 else if c = 3 then d = 1 ∨ d = 2 ∨ d = 4 ∨ d = 8 else d = 8
instance (c d : Int) : Decidable (fX c d) := by unfold fX; infer_instance
theorem MU {c d : Int} (h : c = 0) : fX c d ↔ (d = 1 ∨ d = 2 ∨ d = 4 ∨ d = 8 ∨ d = 16) := by unfold fX; rw [if_pos h]
theorem Np {c d : Int} (h0 : c ≠ 0) (h : c = 2 ∨ c = 4 ∨ c = 6) : fX c d ↔ (d = 8 ∨ d = 16) := by unfold fX; rw [if_neg h0, if_pos h]
theorem N3 {c d : Int} (h : c = 3) : fX c d ↔ (d = 1 ∨ d = 2 ∨ d = 4 ∨ d = 8) := by unfold fX; rw [if_neg (by omega), if_neg (by omega), if_pos h]
theorem DX (c d : Int) : deep c d ↔ fX c d ∧ parts c ≠ 0 := by
  by_cases h0 : c = 0
  · subst h0
    rw [MU rfl, show parts 0 = 1 from rfl]
    unfold deep
    omega
  · by_cases h2 : c = 2 ∨ c = 4 ∨ c = 6
    · rw [Np h0 h2]
      have : parts c ≠ 0 := by rcases h2 with rfl | rfl | rfl <;> decide
      unfold deep
      omega
    · by_cases h3 : c = 3
      · subst h3
        rw [N3 rfl, show parts 3 = 1 from rfl]
        unfold deep
        omega
      · have : parts c = 0 := by unfold parts; rw [if_neg (by omega), if_neg (by omega), if_neg (by omega), if_neg (by omega)]
        rw [this]
        unfold deep
        omega
theorem Ql {B : List Int} (hB : az B) (h0 : ¬ B.length ≠ 13) :
    (¬ fX (aO B).ay (aO B).dep ∧ eY B = 4) ∨
    (fX (aO B).ay (aO B).dep ∧ parts (aO B).ay = 0 ∧ eY B = 4) ∨
    (fX (aO B).ay (aO B).dep ∧ ¬ parts (aO B).ay = 0 ∧ B.getD 10 0 ≠ 0 ∧ eY B = 4) ∨
    (fX (aO B).ay (aO B).dep ∧ ¬ parts (aO B).ay = 0 ∧ ¬ B.getD 10 0 ≠ 0 ∧ B.getD 11 0 ≠ 0 ∧ eY B = 4) ∨
    (fX (aO B).ay (aO B).dep ∧ ¬ parts (aO B).ay = 0 ∧ ¬ B.getD 10 0 ≠ 0 ∧ ¬ B.getD 11 0 ≠ 0 ∧ 1 < B.getD 12 0 ∧ eY B = 4) ∨
    (fX (aO B).ay (aO B).dep ∧ ¬ parts (aO B).ay = 0 ∧ ¬ B.getD 10 0 ≠ 0 ∧ ¬ B.getD 11 0 ≠ 0 ∧ ¬ 1 < B.getD 12 0 ∧ (aO B).w = 0 ∧ eY B = 4) ∨
    (fX (aO B).ay (aO B).dep ∧ ¬ parts (aO B).ay = 0 ∧ ¬ B.getD 10 0 ≠ 0 ∧ ¬ B.getD 11 0 ≠ 0 ∧ ¬ 1 < B.getD 12 0 ∧ ¬ (aO B).w = 0 ∧ (aO B).h = 0 ∧ eY B = 4) ∨
    (fX (aO B).ay (aO B).dep ∧ ¬ parts (aO B).ay = 0 ∧ ¬ B.getD 10 0 ≠ 0 ∧ ¬ B.getD 11 0 ≠ 0 ∧ ¬ 1 < B.getD 12 0 ∧ ¬ (aO B).w = 0 ∧ ¬ (aO B).h = 0 ∧ bS (aO B).w (aO B).h ≠ 0 ∧ eY B = bS (aO B).w (aO B).h ∧ eY B ≠ 0) ∨
    (fX (aO B).ay (aO B).dep ∧ ¬ parts (aO B).ay = 0 ∧ ¬ B.getD 10 0 ≠ 0 ∧ ¬ B.getD 11 0 ≠ 0 ∧ ¬ 1 < B.getD 12 0 ∧ ¬ (aO B).w = 0 ∧ ¬ (aO B).h = 0 ∧ ¬ bS (aO B).w (aO B).h ≠ 0 ∧ eY B = 0) := by
  have hd := DX (aO B).ay (aO B).dep
  have b10 := hB.get 10; have b11 := hB.get 11
  rcases xQ B with h | ⟨_, h1, h⟩ | ⟨_, h1, h2, h⟩ | ⟨_, h1, h2, h3, h⟩ | ⟨_, h1, h2, h3, h4, h⟩ | ⟨_, h1, h2, h3, h4, h5, h⟩ | ⟨_, h1, h2, h3, h4, h5, h6, h⟩ | ⟨_, h1, h2, h3, h4, h5, h6, h⟩
  · exact absurd h.1 h0
  · by_cases ho : fX (aO B).ay (aO B).dep
    · by_cases hp : parts (aO B).ay = 0
      · exact .inr (.inl ⟨ho, hp, h⟩)
      · exact absurd (hd.2 ⟨ho, hp⟩) h1
    · exact .inl ⟨ho, h⟩
  · obtain ⟨ho, hp⟩ := hd.1 h1
    by_cases h10 : B.getD 10 0 ≠ 0
    · exact .inr (.inr (.inl ⟨ho, hp, h10, h⟩))
    · exact .inr (.inr (.inr (.inl ⟨ho, hp, h10, by omega, h⟩)))
  · obtain ⟨ho, hp⟩ := hd.1 h1
    exact .inr (.inr (.inr (.inr (.inl ⟨ho, hp, by omega, by omega, h3, h⟩))))
  · obtain ⟨ho, hp⟩ := hd.1 h1
    exact .inr (.inr (.inr (.inr (.inr (.inl ⟨ho, hp, by omega, by omega, h3, h4, h⟩)))))
  · obtain ⟨ho, hp⟩ := hd.1 h1
    exact .inr (.inr (.inr (.inr (.inr (.inr (.inl ⟨ho, hp, by omega, by omega, h3, h4, h5, h⟩))))))
  · obtain ⟨ho, hp⟩ := hd.1 h1
    refine .inr (.inr (.inr (.inr (.inr (.inr (.inr (.inl ⟨ho, hp, by omega, by omega, h3, h4, h5, h6, ?_, by omega⟩)))))))
    rcases vl (aO B).w (aO B).h with ⟨q, e⟩ | ⟨_, q, e⟩ | ⟨_, _, q, e⟩ | ⟨_, _, _, q, e⟩ | ⟨_, _, _, _, q, e⟩ | ⟨_, _, _, _, _, e⟩
    · have hw : 0 ≤ (aO B).w := (od (L := B) hB).1
      omega
    · have hh : 0 ≤ (aO B).h := (od (L := B.drop 4) (ej hB 4)).1
      omega
    · rw [h, e]
    · rw [h, e]
    · rw [h, e]
    · exact absurd e h6
  · obtain ⟨ho, hp⟩ := hd.1 h1
    exact .inr (.inr (.inr (.inr (.inr (.inr (.inr (.inr ⟨ho, hp, by omega, by omega, h3, h4, h5, h6, h⟩)))))))
theorem GM {L : List Int} {c : Ch} (hL : az L) (h : first L = .ok c) : az c.k ∧ c.k.length < 500000000 := by
  unfold first at h
  split at h
  · cases h
  · split at h
    · cases h
    · split at h
      · cases h
      · split at h
        · cases h
          exact ⟨fun x hx => hL x (List.mem_of_mem_drop (List.mem_of_mem_take hx)), by simp only [List.length_take]; omega⟩
        · cases h
theorem By : ∀ {f : Nat} {L : List Int} {a l : List Ch}, az L → (∀ c ∈ a, az c.k ∧ c.k.length < 500000000) → gB f L a = .ok l → ∀ c ∈ l, az c.k ∧ c.k.length < 500000000
  | 0, L, a, l, _, _, h => by cases h
  | f + 1, L, a, l, hL, ha, h => by
    rw [gB] at h
    split at h
    · cases h
    · rename_i c hc
      have hd := GM hL hc
      have ha2 : ∀ y ∈ a ++ [c], az y.k ∧ y.k.length < 500000000 := fun y hy => by
        rcases List.mem_append.1 hy with hy | hy
        · exact ha y hy
        · rw [List.mem_singleton.1 hy]; exact hd
      split at h
      · split at h
        · cases h; exact ha2
        · cases h
      · exact By (fun x hx => hL x (List.mem_of_mem_drop hx)) ha2 h
theorem NJ {B : List Int} {l : List Ch} (hB : az B) (h : cut B = .ok l) : ∀ c ∈ l, az c.k ∧ c.k.length < 500000000 := by
  unfold cut at h
  split at h
  · cases h
  · split at h
    · cases h
    · split at h
      · exact By (fun x hx => hB x (List.mem_of_mem_drop hx)) (fun c hc => by cases hc) h
      · cases h
def j8 (l : List Ch) : Nat := (l.map (·.d.length)).sum
theorem E7 (a : List Ch) (c : Ch) : j8 (a ++ [c]) = j8 a + c.d.length := by simp [j8]
theorem Ee {L : List Int} {c : Ch} (h : first L = .ok c) : 12 + c.d.length ≤ L.length := by
  unfold first at h
  split at h
  · cases h
  · rename_i h12
    split at h
    · cases h
    · split at h
      · cases h
      · rename_i h3
        split at h
        · cases h
          simp only [List.length_take, List.length_drop]
          omega
        · cases h
theorem vL : ∀ {f : Nat} {L : List Int} {a l : List Ch}, gB f L a = .ok l → j8 l ≤ j8 a + L.length
  | 0, L, a, l, h => by cases h
  | f + 1, L, a, l, h => by
    rw [gB] at h
    split at h
    · cases h
    · rename_i c hc
      have hd := Ee hc
      have hs := E7 a c
      split at h
      · split at h
        · cases h; omega
        · cases h
      · have := vL h
        rw [List.length_drop] at this
        omega
theorem uz {B : List Int} {l : List Ch} (h : cut B = .ok l) : j8 l ≤ B.length := by
  unfold cut at h
  split at h
  · cases h
  · split at h
    · cases h
    · split at h
      · have := vL h
        rw [List.length_drop] at this
        have e0 : j8 [] = 0 := rfl
        omega
      · cases h
theorem nX : ∀ l : List Ch, (dr l).length ≤ j8 l
  | [] => by simp [dr, j8]
  | c :: l => by
    have ih := nX l
    unfold dr at ih ⊢
    rw [List.filter_cons]
    have e : j8 (c :: l) = c.d.length + j8 l := by simp [j8]
    split
    · simp only [List.flatMap_cons, List.length_append]; omega
    · omega
theorem mM {l : List Ch} {k : List Int} : (cI l k).length ≤ j8 l := by
  unfold cI
  split
  · rename_i c hc
    have hm := List.mem_of_find?_eq_some hc
    unfold j8
    clear hc
    induction l with
    | nil => cases hm
    | cons a l ih =>
      rw [List.map_cons, List.sum_cons]
      rcases List.mem_cons.1 hm with rfl | hm
      · omega
      · have := ih hm; omega
  · simp
end Go.aa
namespace Go.aa
open Go.ak Go.Sl
theorem Q0 {B : List Int} (h0 : ¬ B.length ≠ 13) :
    (¬ B.length ≠ 13 ∧ ¬ deep (aO B).ay (aO B).dep ∧ eY B = 4) ∨
    (¬ B.length ≠ 13 ∧ deep (aO B).ay (aO B).dep ∧ 0 < B.getD 10 0 + B.getD 11 0 ∧ eY B = 4) ∨
    (¬ B.length ≠ 13 ∧ deep (aO B).ay (aO B).dep ∧ ¬ 0 < B.getD 10 0 + B.getD 11 0 ∧ 1 < B.getD 12 0 ∧ eY B = 4) ∨
    (¬ B.length ≠ 13 ∧ deep (aO B).ay (aO B).dep ∧ ¬ 0 < B.getD 10 0 + B.getD 11 0 ∧ ¬ 1 < B.getD 12 0 ∧ (aO B).w = 0 ∧ eY B = 4) ∨
    (¬ B.length ≠ 13 ∧ deep (aO B).ay (aO B).dep ∧ ¬ 0 < B.getD 10 0 + B.getD 11 0 ∧ ¬ 1 < B.getD 12 0 ∧ ¬ (aO B).w = 0 ∧ (aO B).h = 0 ∧ eY B = 4) ∨
    (¬ B.length ≠ 13 ∧ deep (aO B).ay (aO B).dep ∧ ¬ 0 < B.getD 10 0 + B.getD 11 0 ∧ ¬ 1 < B.getD 12 0 ∧ ¬ (aO B).w = 0 ∧ ¬ (aO B).h = 0 ∧ bS (aO B).w (aO B).h ≠ 0 ∧ eY B = 6) ∨
    (¬ B.length ≠ 13 ∧ deep (aO B).ay (aO B).dep ∧ ¬ 0 < B.getD 10 0 + B.getD 11 0 ∧ ¬ 1 < B.getD 12 0 ∧ ¬ (aO B).w = 0 ∧ ¬ (aO B).h = 0 ∧ ¬ bS (aO B).w (aO B).h ≠ 0 ∧ eY B = 0) := (xQ B).resolve_left (fun h => h0 h.1)
theorem sS {x : Int} (h : 0 ≤ x ∧ x < 256) : IntKind.i64.wrap x = x := gU (by omega) (by omega)
theorem Nf (c : Int) : c = 0 ∨ (¬ c = 0 ∧ c = 2) ∨ (¬ c = 0 ∧ ¬ c = 2 ∧ c = 4) ∨ (¬ c = 0 ∧ ¬ c = 2 ∧ ¬ c = 4 ∧ c = 6) ∨ (¬ c = 0 ∧ ¬ c = 2 ∧ ¬ c = 4 ∧ ¬ c = 6 ∧ c = 3) ∨ (¬ c = 0 ∧ ¬ c = 2 ∧ ¬ c = 4 ∧ ¬ c = 6 ∧ ¬ c = 3) := by omega
theorem sU {B : List Int} (h : B.length ≠ 13) : eY B = 4 := by unfold eY; rw [if_pos h]
theorem dC {c d : Int} (h : fX c d) : true = decide (fX c d) := (decide_eq_true h).symm
theorem yF {c d : Int} {p : Prop} [Decidable p] (h : p ↔ fX c d) : decide p = decide (fX c d) := decide_eq_decide.2 h
instance (w1 h1 : Int) (n1 : Nat) (w2 h2 : Int) (n2 : Nat) (L1 L2 : List Int) : Decidable (kc w1 h1 n1 w2 h2 n2 L1 L2) := by unfold kc; infer_instance
end Go.aa
namespace Go.aa
open Go.ak Go.Sl
def l6 (l : List Ch) (k : List Int) : List Int := l.foldl (fun d c => if c.k = k then c.d else d) []
theorem nC {L : List Ch} {i : Nat} {x : Ch} (h : L[i]? = some x) : L.take (i + 1) = L.take i ++ [x] := by
  rw [List.take_add_one, h]; rfl
theorem lh {L : List Ch} {i : Nat} {x : Ch} {k : List Int} (h : L[i]? = some x) : l6 (L.take (i + 1)) k = if x.k = k then x.d else l6 (L.take i) k := by
  rw [nC h]; simp [l6]
theorem mj {L : List Ch} {i : Nat} {x : Ch} {k : List Int} (h : L[i]? = some x) : fI (L.take (i + 1)) k = (fI (L.take i) k || (x.k == k)) := by
  rw [nC h]; simp [fI]
theorem sJ {L : List Ch} {i : Nat} {x : Ch} (h : L[i]? = some x) : dr (L.take (i + 1)) = if x.k = cm then dr (L.take i) ++ x.d else dr (L.take i) := by
  rw [nC h]
  unfold dr
  rw [List.filter_append, List.flatMap_append, List.filter_cons, List.filter_nil]
  by_cases hk : x.k = cm
  · simp [hk]
  · simp [hk]
theorem xl (L : List Ch) (i : Nat) : j8 (L.take i) ≤ j8 L := by
  conv => rhs; rw [← List.take_append_drop i L]
  unfold j8
  rw [List.map_append, List.sum_append]
  omega
theorem FX : bC ≠ bZ := by decide
theorem IY : bC ≠ cm := by decide
theorem J9 : bZ ≠ cm := by decide
def cnt (k : List Int) (l : List Ch) : Nat := (l.filter fun c => c.k == k).length
theorem vp (k : List Int) (c : Ch) (l : List Ch) : cnt k (c :: l) = (if c.k = k then 1 else 0) + cnt k l := by
  unfold cnt
  rw [List.filter_cons]
  by_cases h : c.k = k
  · simp [h]; omega
  · simp [h]
theorem vh {k : List Int} : ∀ {l : List Ch} {d : List Int}, cnt k l = 0 → l.foldl (fun d c => if c.k = k then c.d else d) d = d
  | [], d, _ => rfl
  | c :: l, d, h => by
    rw [vp] at h
    have hc : c.k ≠ k := fun e => by rw [if_pos e] at h; omega
    rw [List.foldl_cons, if_neg hc]
    exact vh (by omega)
theorem uw {k : List Int} : ∀ {l : List Ch}, cnt k l ≤ 1 → l6 l k = cI l k
  | [], _ => rfl
  | c :: l, h => by
    rw [vp] at h
    unfold l6 cI
    rw [List.foldl_cons, List.find?_cons]
    by_cases hc : c.k = k
    · rw [if_pos hc] at h ⊢
      rw [vh (by omega)]
      simp [hc]
    · rw [if_neg hc] at h ⊢
      have := uw (k := k) (l := l) (by omega)
      unfold l6 cI at this
      have hb : (c.k == k) = false := beq_false_of_ne hc
      simp only [hb, if_neg hc, this]
theorem C1 {n i : Nat} {prev : List Int} {c : Ch} {s s2 : Od} (h : eI n i prev c s = some s2) : s2.iY = s.iY + (if c.k = bC then 1 else 0) ∧ s2.gG = s.gG + (if c.k = bZ then 1 else 0) := by
  have d1 : dv ≠ bC := by decide
  have d2 : dv ≠ bZ := by decide
  have d3 : cD ≠ bC := by decide
  have d4 : cD ≠ bZ := by decide
  have d5 : cm ≠ bC := by decide
  have d6 : cm ≠ bZ := by decide
  have d7 : bC ≠ bZ := by decide
  unfold eI at h
  split at h
  · rename_i hk
    rw [hk, if_neg d1, if_neg d2]
    split at h
    · cases h
    · cases h; exact ⟨rfl, rfl⟩
  · split at h
    · rename_i hk
      rw [hk, if_neg d3, if_neg d4]
      split at h
      · cases h
      · cases h; exact ⟨rfl, rfl⟩
    · split at h
      · rename_i hk
        rw [hk, if_neg d5, if_neg d6]
        split at h
        · cases h
        · cases h; exact ⟨rfl, rfl⟩
      · split at h
        · rename_i hk
          rw [hk, if_pos rfl, if_neg d7]
          split at h
          · cases h
          · cases h; exact ⟨rfl, rfl⟩
        · rename_i hp
          split at h
          · rename_i hk
            rw [if_neg hp, if_pos hk]
            split at h
            · cases h
            · cases h; exact ⟨rfl, rfl⟩
          · rename_i hk
            rw [if_neg hp, if_neg hk]
            split at h
            · cases h
            · cases h; exact ⟨rfl, rfl⟩
theorem zh {n : Nat} : ∀ {l : List Ch} {i : Nat} {prev : List Int} {s : Od}, lK n i prev l s = true → s.iY + cnt bC l ≤ 1 ∧ s.gG + cnt bZ l ≤ 1
  | [], i, prev, s, h => by
    rw [lK] at h
    unfold ss at h
    simp only [Bool.and_eq_true, decide_eq_true_eq] at h
    exact ⟨h.1.2, h.2⟩
  | c :: l, i, prev, s, h => by
    rw [lK] at h
    split at h
    · cases h
    · rename_i s2 hs
      have ih := zh h
      obtain ⟨e1, e2⟩ := C1 hs
      rw [vp, vp]
      omega
theorem DI {l : List Ch} (h : dS l = true) : l6 l bC = cI l bC ∧ l6 l bZ = cI l bZ := by
  rw [← Ht] at h
  have := zh h
  exact ⟨uw (by omega), uw (by omega)⟩
theorem vz {l : List Ch} (h : dS l = true) : 3 ≤ l.length := by
  unfold dS at h
  simp only [Bool.and_eq_true, decide_eq_true_eq] at h
  exact h.1.1.1.1.1
theorem vE {k : List Int} : ∀ {L : List Ch} {i : Nat} {x : Ch}, L[i]? = some x → x.k = k → (∀ j, j < i → ∀ c, L[j]? = some c → c.k ≠ k) → cI L k = x.d ∧ fI L k = true
  | [], i, x, h, _, _ => by simp at h
  | c :: L, 0, x, h, hk, _ => by
    simp only [List.getElem?_cons_zero, Option.some.injEq] at h
    subst h
    simp [cI, fI, hk]
  | c :: L, i + 1, x, h, hk, hall => by
    simp only [List.getElem?_cons_succ] at h
    have hc := hall 0 (by omega) c rfl
    have := vE h hk (fun j hj y hy => hall (j + 1) (by omega) y (by simpa using hy))
    unfold cI fI at this ⊢
    have hb : (c.k == k) = false := beq_false_of_ne hc
    simp only [List.find?_cons, List.any_cons, hb, Bool.false_or, this]
    exact ⟨trivial, trivial⟩
theorem w8 {k : List Int} : ∀ {L : List Ch}, (∀ j, j < L.length → ∀ c, L[j]? = some c → c.k ≠ k) → cI L k = [] ∧ fI L k = false
  | [], _ => ⟨rfl, rfl⟩
  | c :: L, hall => by
    have hc := hall 0 (by simp) c rfl
    have := w8 (k := k) (L := L) (fun j hj y hy => hall (j + 1) (by simp; omega) y (by simpa using hy))
    unfold cI fI at this ⊢
    have hb : (c.k == k) = false := beq_false_of_ne hc
    simp only [List.find?_cons, List.any_cons, hb, Bool.false_or, this]
    exact ⟨trivial, trivial⟩
theorem nY {k : List Int} {L : List Ch} (h : fI L k = false) : cI L k = [] := by
  unfold fI at h
  unfold cI
  have : L.find? (fun c => c.k == k) = none := by
    rw [List.find?_eq_none]
    intro c hc hk
    rw [List.any_eq_false] at h
    exact h c hc hk
  rw [this]
def jw (h : Hd) (plte : List Int) (has : Bool) : Prop := if has then ¬ (h.ay = 0 ∨ h.ay = 4) ∧ (h.ay = 3 → (plte.length : Int) / 3 ≤ 2 ^ h.dep.toNat) ∧ plte.length % 3 = 0 ∧ 0 < plte.length ∧ plte.length / 3 ≤ 256 else h.ay ≠ 3
def jJ (h : Hd) (plte trns : List Int) (is : Bool) : Prop := is = true → (h.ay = 3 ∧ trns.length ≤ plte.length / 3) ∨ (h.ay = 0 ∧ trns.length = 2) ∨ (h.ay = 2 ∧ trns.length = 6)
instance (h : Hd) (plte : List Int) (has : Bool) : Decidable (jw h plte has) := by unfold jw; infer_instance
instance (h : Hd) (plte trns : List Int) (is : Bool) : Decidable (jJ h plte trns is) := by unfold jJ; infer_instance
theorem Ka (h : Hd) (plte : List Int) : jw h plte false ↔ h.ay ≠ 3 := Iff.rfl
theorem KW {h : Hd} {plte : List Int} {P : Int} (hP : P = 2 ^ h.dep.toNat) : (h.ay = 0 ∧ ¬ jw h plte true) ∨ (¬ h.ay = 0 ∧ h.ay = 4 ∧ ¬ jw h plte true) ∨
    (¬ h.ay = 0 ∧ ¬ h.ay = 4 ∧ h.ay = 3 ∧ P < (plte.length : Int) / 3 ∧ ¬ jw h plte true) ∨
    (¬ h.ay = 0 ∧ ¬ h.ay = 4 ∧ h.ay = 3 ∧ ¬ P < (plte.length : Int) / 3 ∧ (jw h plte true ↔ plte.length % 3 = 0 ∧ 0 < plte.length ∧ plte.length / 3 ≤ 256)) ∨
    (¬ h.ay = 0 ∧ ¬ h.ay = 4 ∧ ¬ h.ay = 3 ∧ (jw h plte true ↔ plte.length % 3 = 0 ∧ 0 < plte.length ∧ plte.length / 3 ≤ 256)) := by
  subst hP
  unfold jw
  simp only [if_true]
  by_cases h0 : h.ay = 0
  · exact .inl ⟨h0, fun hh => hh.1 (.inl h0)⟩
  · by_cases h4 : h.ay = 4
    · exact .inr (.inl ⟨h0, h4, fun hh => hh.1 (.inr h4)⟩)
    · by_cases h3 : h.ay = 3
      · by_cases hp : (2 : Int) ^ h.dep.toNat < (plte.length : Int) / 3
        · exact .inr (.inr (.inl ⟨h0, h4, h3, hp, fun hh => Int.not_lt.2 (hh.2.1 h3) hp⟩))
        · exact .inr (.inr (.inr (.inl ⟨h0, h4, h3, hp, ⟨fun hh => hh.2.2, fun hh => ⟨fun h => h.elim h0 h4, fun _ => Int.not_lt.1 hp, hh⟩⟩⟩)))
      · exact .inr (.inr (.inr (.inr ⟨h0, h4, h3, ⟨fun hh => hh.2.2, fun hh => ⟨fun h => h.elim h0 h4, fun h => absurd h h3, hh⟩⟩⟩)))
theorem Lu (n : Nat) : (¬ n % 3 = 0) ∨ (n % 3 = 0 ∧ ¬ 0 < n) ∨ (n % 3 = 0 ∧ 0 < n) := by omega
theorem K0 (h : Hd) (plte trns : List Int) : jJ h plte trns false := fun hh => by cases hh
theorem L6 (h : Hd) (plte trns : List Int) : (h.ay = 3 ∧ (jJ h plte trns true ↔ trns.length ≤ plte.length / 3)) ∨ (¬ h.ay = 3 ∧ h.ay = 0 ∧ ¬ trns.length = 2 ∧ ¬ jJ h plte trns true) ∨ (¬ h.ay = 3 ∧ h.ay = 0 ∧ trns.length = 2 ∧ jJ h plte trns true) ∨
    (¬ h.ay = 3 ∧ ¬ h.ay = 0 ∧ h.ay = 2 ∧ ¬ trns.length = 6 ∧ ¬ jJ h plte trns true) ∨ (¬ h.ay = 3 ∧ ¬ h.ay = 0 ∧ h.ay = 2 ∧ trns.length = 6 ∧ jJ h plte trns true) ∨ (¬ h.ay = 3 ∧ ¬ h.ay = 0 ∧ ¬ h.ay = 2 ∧ ¬ jJ h plte trns true) := by
  unfold jJ
  simp only [true_implies]
  omega
theorem HK {x P : Int} {d : Int} (hP : P = 2 ^ d.toNat) (hd : jC d) (hx : 0 ≤ x ∧ x < 65536) : IntKind.i64.wrap ((BitVec.ofInt IntKind.i64.bits x &&& BitVec.ofInt IntKind.i64.bits (P - 1)).toNat : Int) = x % P := by
  obtain ⟨n, rfl⟩ : ∃ n : Nat, x = (n : Int) := ⟨x.toNat, by omega⟩
  subst hP
  have key : ∀ m : Nat, m ≤ 16 → IntKind.i64.wrap ((BitVec.ofInt IntKind.i64.bits (n : Int) &&& BitVec.ofInt IntKind.i64.bits (2 ^ m - 1)).toNat : Int) = (n : Int) % 2 ^ m := by
    intro m hm
    have e : IntKind.i64.bits = 64 := rfl
    have hp : (2 : Nat) ^ m ≤ 2 ^ 16 := Nat.pow_le_pow_right (by decide) hm
    have hp1 : (1 : Nat) ≤ 2 ^ m := Nat.one_le_two_pow
    have e1 : BitVec.ofInt 64 ((2 : Int) ^ m - 1) = BitVec.ofNat 64 (2 ^ m - 1) := by
      rw [show (2 : Int) ^ m - 1 = ((2 ^ m - 1 : Nat) : Int) from by push_cast [hp1]; rfl, BitVec.ofInt_natCast]
    rw [e, BitVec.ofInt_natCast, e1, BitVec.toNat_and, BitVec.toNat_ofNat, BitVec.toNat_ofNat, Nat.mod_eq_of_lt (by omega), Nat.mod_eq_of_lt (by omega), Nat.and_two_pow_sub_one_eq_mod]
    have h2 : n % 2 ^ m ≤ n := Nat.mod_le ..
    rw [gU (by omega) (by omega)]
    simp
  exact key _ (by have := jV hd; omega)
theorem NK {h : Hd} {trns : List Int} (hc : h.ay = 0 ∨ h.ay = 2) (hl : trns.length / 2 = (parts h.ay).toNat) {i : Nat} (hi : i < (parts h.ay).toNat) : (bH h trns).take (i + 1) = (bH h trns).take i ++ [(trns.getD (2 * i) 0 * 256 + trns.getD (2 * i + 1) 0) % 2 ^ h.dep.toNat] ∧ (bH h trns).length = (parts h.ay).toNat := by
  unfold bH
  rw [if_pos hc]
  refine ⟨?_, by simp [hl]⟩
  rw [List.take_add_one]
  simp [hl, hi]
theorem GA {h : Hd} {trns : List Int} (hc : h.ay = 0 ∨ h.ay = 2) (hl : trns.length / 2 = (parts h.ay).toNat) : (bH h trns).length = (parts h.ay).toNat := by
  unfold bH
  rw [if_pos hc]; simp [hl]
theorem M3 {h : Hd} {trns : List Int} (hc : ¬ (h.ay = 0 ∨ h.ay = 2)) : bH h trns = [] := by unfold bH; rw [if_neg hc]
theorem Hj (h : Hd) : bH h [] = [] := by unfold bH; split <;> rfl
end Go.aa
namespace Go.aa
open Go.ak Go.Sl
theorem EK {B : List Int} (hB : az B) {k : Nat} : c4 B (16 * k) 16 = B.getD (2 * k) 0 * 256 + B.getD (2 * k + 1) 0 := by
  rw [show 16 * k = 8 * (2 * k) by omega, qU (hB.get _) (hB.get _)]
end Go.aa
namespace Go.aa
open Go.ak Go.Sl
def gC (f : Fl) : Prop := deep f.hd.ay f.hd.dep ∧ az f.plte ∧ az f.trns ∧ f.plte.length < 500000000 ∧ f.trns.length < 500000000 ∧ (f.hd.ay = 0 → f.trns.length = 0 ∨ f.trns.length = 2) ∧ (f.hd.ay = 2 → f.trns.length = 0 ∨ f.trns.length = 6) ∧ (f.hd.ay = 4 ∨ f.hd.ay = 6 → f.trns = []) ∧ (f.hd.ay = 3 → f.plte.length % 3 = 0)
theorem ik {c d : Int} (h : deep c d) : (c = 0 ∧ parts c = 1) ∨ (c = 2 ∧ parts c = 3) ∨ (c = 3 ∧ parts c = 1) ∨ (c = 4 ∧ parts c = 2) ∨ (c = 6 ∧ parts c = 4) := by
  have hp := pM c
  unfold deep at h
  omega
def wa (pl tr : List Int) (k : Nat) : Option (List Int) := if pl.length / 3 ≤ k then none else some [(pl.drop (3 * k)).getD 0 0 * 257, (pl.drop (3 * k)).getD 1 0 * 257, (pl.drop (3 * k)).getD 2 0 * 257, if k < tr.length then tr.getD k 0 * 257 else 65535]
def qO (f : Fl) (v : List Int) : Int := if 0 < (bH f.hd f.trns).length ∧ v = bH f.hd f.trns then 0 else if f.hd.ay = 4 ∨ f.hd.ay = 6 then (v.map (up f.hd.dep)).getD ((v.map (up f.hd.dep)).length - 1) 0 else 65535
theorem wH {f : Fl} {v : List Int} (h : f.hd.ay = 3) : je f v = wa f.plte f.trns (v.getD 0 0).toNat := by
  unfold je wa
  rw [if_pos h]
  split
  · rfl
  · rw [fc, fc, fc]
    rfl
theorem tC {f : Fl} {v : List Int} (h : ¬ f.hd.ay = 3) : je f v = some (if f.hd.ay = 0 ∨ f.hd.ay = 4 then [(v.map (up f.hd.dep)).getD 0 0, (v.map (up f.hd.dep)).getD 0 0, (v.map (up f.hd.dep)).getD 0 0, qO f v] else [(v.map (up f.hd.dep)).getD 0 0, (v.map (up f.hd.dep)).getD 1 0, (v.map (up f.hd.dep)).getD 2 0, qO f v]) := by
  unfold je qO
  rw [if_neg h]
  show (if f.hd.ay = 0 ∨ f.hd.ay = 4 then _ else _) = _
  split <;> rfl
theorem yt {f : Fl} {v : List Int} (h : f.hd.ay = 0 ∨ f.hd.ay = 4) : je f v = some [(v.map (up f.hd.dep)).getD 0 0, (v.map (up f.hd.dep)).getD 0 0, (v.map (up f.hd.dep)).getD 0 0, qO f v] := by rw [tC (by omega), if_pos h]
theorem Im {f : Fl} {v : List Int} (h : ¬ (f.hd.ay = 0 ∨ f.hd.ay = 4)) (h3 : ¬ f.hd.ay = 3) : je f v = some [(v.map (up f.hd.dep)).getD 0 0, (v.map (up f.hd.dep)).getD 1 0, (v.map (up f.hd.dep)).getD 2 0, qO f v] := by rw [tC h3, if_neg h]
theorem JA {pl tr : List Int} {k : Nat} (h : pl.length / 3 ≤ k) : wa pl tr k = none := if_pos h
theorem Ck {pl tr : List Int} {k : Nat} (h : ¬ pl.length / 3 ≤ k) : wa pl tr k = some [(pl.drop (3 * k)).getD 0 0 * 257, (pl.drop (3 * k)).getD 1 0 * 257, (pl.drop (3 * k)).getD 2 0 * 257, if k < tr.length then tr.getD k 0 * 257 else 65535] := if_neg h
theorem Ap {v : List Int} {d : Int} {i : Nat} (h : i < v.length) : (v.map (up d)).take i ++ [up d (v.getD i 0)] = (v.map (up d)).take (i + 1) := by
  rw [List.take_add_one]
  simp [h, List.getD_eq_getElem?_getD]
def sm (h : Hd) (row : List Int) (x i : Nat) : Int := c4 row (x * (parts h.ay).toNat * h.dep.toNat + i * h.dep.toNat) h.dep.toNat
theorem lT (h : Hd) (row : List Int) (x : Nat) : (fF h row x).length = (parts h.ay).toNat := by simp [fF]
theorem Is {h : Hd} {row : List Int} {x i : Nat} (hi : i < (parts h.ay).toNat) : (fF h row x).getD i 0 = sm h row x i := by simp [fF, sm, hi, List.getD_eq_getElem?_getD]
theorem uh {h : Hd} {row : List Int} {x : Nat} : ∀ y ∈ fF h row x, 0 ≤ y ∧ y < 2 ^ h.dep.toNat := fun y hy => by
  unfold fF at hy
  obtain ⟨i, _, rfl⟩ := List.mem_map.1 hy
  exact mF _ _ _
def RS (S : List Int) (i : Nat) : List Int := S.take i ++ List.replicate (4 - i) 0
def ky (h : Hd) (tr S : List Int) (i : Nat) : Bool := decide (0 < tr.length) && (List.range i).all fun j => decide ((tr.getD (2 * j) 0 * 256 + tr.getD (2 * j + 1) 0) % 2 ^ h.dep.toNat = S.getD j 0)
theorem GO {w bits : Int} {x : Nat} {n : Nat} (hx : (x : Int) < w) (hb : 0 ≤ bits) (hn : (n : Int) = fh w bits) : (x : Int) * bits + bits ≤ 8 * n := by
  rw [hn]
  unfold fh
  have h1 : ((x : Int) + 1) * bits ≤ w * bits := Int.mul_le_mul_of_nonneg_right (by omega) hb
  rw [Int.add_mul, Int.one_mul] at h1
  omega
end Go.aa
namespace Go.aa
open Go.ak Go.Sl
theorem jj {l : List Int} {i : Nat} (h : i < l.length) : l.getD i 0 ∈ l := by
  rw [List.getD_eq_getElem?_getD, List.getElem?_eq_getElem h]
  exact List.getElem_mem h
theorem vA {a b c d a' b' c' d' : Int} (h : some [a, b, c, d] = some [a', b', c', d']) : a = a' ∧ b = b' ∧ c = c' ∧ d = d' := by
  simpa using h
theorem tf (b : Bool) : b = true ∨ b = false := by cases b <;> simp
end Go.aa
namespace Go.aa
open Go.ak Go.Sl
theorem GS (f : Fl) (v : List Int) : je f v = none ∨ ∃ a b c d, je f v = some [a, b, c, d] := by
  by_cases h3 : f.hd.ay = 3
  · rw [wH h3]
    unfold wa
    split
    · exact .inl rfl
    · exact .inr ⟨_, _, _, _, rfl⟩
  · rw [tC h3]
    split
    · exact .inr ⟨_, _, _, _, rfl⟩
    · exact .inr ⟨_, _, _, _, rfl⟩
def vN (S old : List Int) (k : Nat) : List Int := S.take k ++ old.drop k
theorem P3 (S old : List Int) : vN S old 0 = old := rfl
theorem J0 {S old : List Int} {k : Nat} (h : S.length = old.length) (hk : k ≤ S.length) : (vN S old k).length = S.length := by simp [vN]; omega
theorem Je {S old : List Int} (h : S.length = old.length) : vN S old S.length = S := by
  unfold vN
  rw [List.take_length, List.drop_eq_nil_of_le (by omega), List.append_nil]
theorem OR {S old : List Int} {k : Nat} (h : S.length = old.length) (hk : k < S.length) : (vN S old k).set k (S.getD k 0) = vN S old (k + 1) := by
  unfold vN
  have hl : (S.take k).length = k := by rw [List.length_take]; omega
  rw [List.drop_eq_getElem_cons (show k < old.length by omega), yk hl, List.take_add_one, List.append_assoc]
  congr 1
  simp [hk, List.getD_eq_getElem?_getD]
theorem OV {h : Hd} {row old : List Int} {x N D k : Nat} (hN : N = (parts h.ay).toNat) (hD : D = h.dep.toNat) (ho : old.length = N) (hk : k < N) : (vN (fF h row x) old k).set ((k : Int)).toNat (c4 row (x * N * D + k * D) D) = vN (fF h row x) old (k + 1) := by
  subst hN; subst hD
  have e := Is (h := h) (row := row) (x := x) hk
  unfold sm at e
  rw [← e, show ((k : Int)).toNat = k from rfl]
  exact OR (by rw [lT, ho]) (by rw [lT]; exact hk)
def k6 (p : Ps) (w h : Int) : Prop := j6 p ∧ (∀ k : Int, 0 ≤ k → k < p.w → p.x + k * p.dx < w) ∧ ∀ k : Int, 0 ≤ k → k < p.h → p.y + k * p.dy < h
theorem Jv {x y dx dy w h : Int} (hx : 0 ≤ x ∧ x ≤ 8) (hy : 0 ≤ y ∧ y ≤ 8) (hdx : dx = 1 ∨ dx = 2 ∨ dx = 4 ∨ dx = 8) (hdy : dy = 1 ∨ dy = 2 ∨ dy = 4 ∨ dy = 8) (hw : 0 ≤ w ∧ w ≤ 256) (hh : 0 ≤ h ∧ h ≤ 256) : k6 (tx x y dx dy w h) w h :=
  ⟨A6 hx hy hdx hdy hw hh, fun k h0 hk => (zq hdx h0).2 hk, fun k h0 hk => (zq hdy h0).2 hk⟩
theorem uW {w h : Int} (hw : 0 ≤ w ∧ w ≤ 256) (hh : 0 ≤ h ∧ h ≤ 256) : ∀ p ∈ gq w h, k6 p w h := fun p hp => by
  have hm := (List.mem_filter.1 hp).1
  unfold jc at hm
  simp only [List.mem_cons, List.not_mem_nil, or_false] at hm
  rcases hm with rfl | rfl | rfl | rfl | rfl | rfl | rfl <;> exact Jv (by decide) (by decide) (by decide) (by decide) hw hh
theorem w9 {w h : Int} (hw : 0 ≤ w ∧ w ≤ 256) (hh : 0 ≤ h ∧ h ≤ 256) : ∀ p ∈ whole w h, k6 p w h := fun p hp => by
  have := (xo hw hh).1 p hp
  unfold whole at hp
  rw [List.mem_singleton.1 hp] at this ⊢
  exact ⟨this, fun k h0 hk => by show 0 + k * 1 < w; have : k < w := hk; omega, fun k h0 hk => by show 0 + k * 1 < h; have : k < h := hk; omega⟩
section
variable {f : Fl} {p : Ps} {y : Int} {row : List Int} {i : Nat} {P : List Int} {r : Option (List Int)}
theorem IW (hi : (i : Int) < p.w) (hpx : je f (fF f.hd row i) = none) (h : gO f p y row (p.w.toNat - i) i P = r) : r = none := by
  rw [show p.w.toNat - i = (p.w.toNat - (i + 1)) + 1 by omega, gO, hpx] at h
  exact h.symm
theorem JQ {c : List Int} (hi : (i : Int) < p.w) (hpx : je f (fF f.hd row i) = some c) (h : gO f p y row (p.w.toNat - i) i P = r) : gO f p y row (p.w.toNat - (i + 1)) (i + 1) (l5 f.hd.w P (p.x + i * p.dx) (p.y + y * p.dy) c) = r := by
  rw [show p.w.toNat - i = (p.w.toNat - (i + 1)) + 1 by omega, gO, hpx] at h
  exact h
theorem LJ (hi : ¬ (i : Int) < p.w) (h : gO f p y row (p.w.toNat - i) i P = r) : r = some P := by
  rw [show p.w.toNat - i = 0 by omega, gO] at h
  exact h.symm
end
section
variable {f : Fl} {D : List Int} {n back : Nat} {p : Ps} {y a : Nat} {A P : List Int} {r : Option (Nat × List Int)}
theorem Ic (hy : (y : Int) < p.h) (hk : 4 < D.getD a 0) (h : fz f D n back p (p.h.toNat - y) y a A P = r) : r = none := by
  rw [show p.h.toNat - y = (p.h.toNat - (y + 1)) + 1 by omega, fz, if_pos hk] at h
  exact h.symm
theorem GC (hy : (y : Int) < p.h) (hk : ¬ 4 < D.getD a 0) (hr : gO f p y (gw (D.getD a 0) ((D.drop (a + 1)).take n) A back) p.w.toNat 0 P = none) (h : fz f D n back p (p.h.toNat - y) y a A P = r) : r = none := by
  rw [show p.h.toNat - y = (p.h.toNat - (y + 1)) + 1 by omega, fz, if_neg hk, hr] at h
  exact h.symm
theorem Ij {P2 : List Int} (hy : (y : Int) < p.h) (hk : ¬ 4 < D.getD a 0) (hr : gO f p y (gw (D.getD a 0) ((D.drop (a + 1)).take n) A back) p.w.toNat 0 P = some P2) (h : fz f D n back p (p.h.toNat - y) y a A P = r) : fz f D n back p (p.h.toNat - (y + 1)) (y + 1) (a + 1 + n) (gw (D.getD a 0) ((D.drop (a + 1)).take n) A back) P2 = r := by
  rw [show p.h.toNat - y = (p.h.toNat - (y + 1)) + 1 by omega, fz, if_neg hk, hr] at h
  exact h
theorem Ib (hy : ¬ (y : Int) < p.h) (h : fz f D n back p (p.h.toNat - y) y a A P = r) : r = some (a, P) := by
  rw [show p.h.toNat - y = 0 by omega, fz] at h
  exact h.symm
theorem NU (f : Fl) (D : List Int) (n back : Nat) (p : Ps) (y a : Nat) (A P : List Int) : 4 < D.getD a 0 ∨ (¬ 4 < D.getD a 0 ∧ gO f p y (gw (D.getD a 0) ((D.drop (a + 1)).take n) A back) p.w.toNat 0 P = none) ∨ (¬ 4 < D.getD a 0 ∧ ∃ P2, gO f p y (gw (D.getD a 0) ((D.drop (a + 1)).take n) A back) p.w.toNat 0 P = some P2) := by
  by_cases h : 4 < D.getD a 0
  · exact .inl h
  · cases hr : gO f p y (gw (D.getD a 0) ((D.drop (a + 1)).take n) A back) p.w.toNat 0 P with
    | none => exact .inr (.inl ⟨h, rfl⟩)
    | some P2 => exact .inr (.inr ⟨h, P2, rfl⟩)
end
theorem Kf (x : Int) : (if 1 < x then x else 1) = max 1 x := by split <;> omega
theorem uu (kind : Int) (row above : List Int) (back : Nat) : az (gw kind row above back) := rK kind row above back row.length
def nQ (bits : Int) (l : List Ps) : Nat := (l.map fun p => p.h.toNat * (1 + (fh p.w bits).toNat)).sum
theorem Bt (bits : Int) (p : Ps) (l : List Ps) : nQ bits (p :: l) = p.h.toNat * (1 + (fh p.w bits).toNat) + nQ bits l := by simp [nQ]
theorem tJ {bits : Int} (hb : 0 ≤ bits ∧ bits ≤ 64) : ∀ {l : List Ps}, (∀ p ∈ l, j6 p ∧ 0 < p.w) → (nQ bits l : Int) = gb l bits
  | [], _ => rfl
  | p :: l, h => by
    have ih := tJ hb (fun q hq => h q (List.mem_cons_of_mem _ hq))
    obtain ⟨ho, hw⟩ := h p (List.mem_cons_self ..)
    obtain ⟨_, _, _, _, _, _, hw0, hw1, hh0, hh1⟩ := ho
    have hr := nS ⟨hw0, hw1⟩ hb
    rw [Bt]
    unfold gb at ih ⊢
    rw [List.map_cons, List.sum_cons, if_pos hw, ← ih]
    push_cast
    rw [Int.toNat_of_nonneg hh0, Int.toNat_of_nonneg hr.2.2.1]
theorem Dq {w h : Int} : ∀ p ∈ gq w h, 0 < p.w := fun p hp => by
  have := (List.mem_filter.1 hp).2
  simp only [Bool.and_eq_true, decide_eq_true_eq] at this
  exact this.1
theorem G6 {w h : Int} (hw : 0 < w) : ∀ p ∈ whole w h, 0 < p.w := fun p hp => by
  unfold whole at hp
  rw [List.mem_singleton.1 hp]
  exact hw
end Go.aa
namespace Go.aa
open Go.ak Go.Sl
theorem jx : az [] := fun x hx => by cases hx
theorem wA {h : Hd} {p : Ps} {nr : Nat} (hp : 0 ≤ parts h.ay) (hd : 0 ≤ h.dep) (hnr : (nr : Int) = fh p.w (parts h.ay * h.dep)) : ∀ i : Nat, (i : Int) < p.w → i * (parts h.ay).toNat * h.dep.toNat + (parts h.ay).toNat * h.dep.toNat ≤ 8 * nr := fun i hi => by
  have hb := GO hi (Int.mul_nonneg hp hd) hnr
  have e1 : ((i * (parts h.ay).toNat * h.dep.toNat + (parts h.ay).toNat * h.dep.toNat : Nat) : Int) = (i : Int) * (parts h.ay * h.dep) + parts h.ay * h.dep := by
    push_cast
    rw [Int.toNat_of_nonneg hp, Int.toNat_of_nonneg hd, Int.mul_assoc]
  omega
end Go.aa
namespace Go.aa
open Go.ak Go.Sl
theorem kQ {h : Hd} (hs : bS h.w h.h = 0) : (∀ p ∈ bB h, k6 p h.w h.h ∧ j6 p ∧ 0 < p.w) ∧ (bB h).length ≤ 7 := by
  have hsd := kC hs
  unfold bB
  cases h.cC with
  | true => exact ⟨fun p hp => ⟨uW (by omega) (by omega) p hp, (uW (by omega) (by omega) p hp).1, Dq p hp⟩, (Bq (by omega) (by omega)).2⟩
  | false => exact ⟨fun p hp => ⟨w9 (by omega) (by omega) p hp, (w9 (by omega) (by omega) p hp).1, G6 (by omega) p hp⟩, (xo (by omega) (by omega)).2⟩
theorem Ak {h : Hd} (hl : h.cC = true) : gq h.w h.h = bB h := by unfold bB; rw [hl]; rfl
theorem zV {h : Hd} (hl : h.cC = false) : whole h.w h.h = bB h := by unfold bB; rw [hl]; rfl
def mq (f : Fl) (z : List Int × Int) : tp × Int := if z.2 ≠ 0 then (fo, z.2) else if (z.1.length : Int) < want f.hd then (fo, 2) else match gT f z.1 (bB f.hd) 0 (mA f.hd) with | none => (fo, 4) | some dG => (⟨f.hd.w, f.hd.h, dG⟩, 0)
theorem Qi (f : Fl) (z : List Int × Int) : (z.2 ≠ 0 ∧ mq f z = (fo, z.2)) ∨ (¬ z.2 ≠ 0 ∧ (z.1.length : Int) < want f.hd ∧ mq f z = (fo, 2)) ∨ (¬ z.2 ≠ 0 ∧ ¬ (z.1.length : Int) < want f.hd) := by
  by_cases h1 : z.2 ≠ 0
  · exact .inl ⟨h1, if_pos h1⟩
  · by_cases h2 : (z.1.length : Int) < want f.hd
    · exact .inr (.inl ⟨h1, h2, by unfold mq; rw [if_neg h1, if_pos h2]⟩)
    · exact .inr (.inr ⟨h1, h2⟩)
theorem FM {f : Fl} {z : List Int × Int} (h1 : ¬ z.2 ≠ 0) (h2 : ¬ (z.1.length : Int) < want f.hd) (h : gT f z.1 (bB f.hd) 0 (mA f.hd) = none) : mq f z = (fo, 4) := by unfold mq; rw [if_neg h1, if_neg h2, h]
theorem FQ {f : Fl} {z : List Int × Int} {dG : List Int} (h1 : ¬ z.2 ≠ 0) (h2 : ¬ (z.1.length : Int) < want f.hd) (h : gT f z.1 (bB f.hd) 0 (mA f.hd) = some dG) : mq f z = (⟨f.hd.w, f.hd.h, dG⟩, 0) := by unfold mq; rw [if_neg h1, if_neg h2, h]
theorem CM {h : Hd} (hs : bS h.w h.h = 0) (hd : deep h.ay h.dep) : (nQ (bitsOf h) (bB h) : Int) = want h := by
  have hb := mn hd
  exact tJ ⟨by unfold bitsOf; omega, by unfold bitsOf; omega⟩ (fun p hp => ⟨((kQ hs).1 p hp).2.1, ((kQ hs).1 p hp).2.2⟩)
theorem G9 {h : Hd} (hs : bS h.w h.h = 0) (hd : deep h.ay h.dep) : 0 ≤ want h ∧ want h < 500000000 := by
  have hb := mn hd
  have h1 := u0 (l := bB h) (bits := bitsOf h) ⟨by unfold bitsOf; omega, by unfold bitsOf; omega⟩ (fun p hp => ((kQ hs).1 p hp).2.1)
  have h7 := (kQ hs).2
  unfold want
  omega
theorem tT {l : List Ps} {i : Nat} (h : i < l.length) : l.drop i = l.getD i ⟨0, 0, 0, 0, 0, 0⟩ :: l.drop (i + 1) := by
  rw [List.drop_eq_getElem_cons h, List.getD_eq_getElem?_getD, List.getElem?_eq_getElem h]
  rfl
def lO (h : Hd) (p : Ps) : Nat := (fh p.w (bitsOf h)).toNat
def nJ (h : Hd) : Nat := (max 1 (bitsOf h / 8)).toNat
theorem yT {h : Hd} {p : Ps} (hp : j6 p) (hd : deep h.ay h.dep) : (lO h p : Int) = fh p.w (parts h.ay * h.dep) := by
  have hb := mn hd
  obtain ⟨_, _, _, _, _, _, hw0, hw1, _, _⟩ := hp
  have := nS (w := p.w) (bits := parts h.ay * h.dep) ⟨hw0, hw1⟩ (by omega)
  exact Int.toNat_of_nonneg this.2.2.1
theorem yN (h : Hd) : (nJ h : Int) = max 1 (parts h.ay * h.dep / 8) := Int.toNat_of_nonneg (by unfold bitsOf; omega)
section
variable {f : Fl} {D : List Int} {l : List Ps} {i a : Nat} {P : List Int} {x : Ps} {r : Option (List Int)}
theorem KB (hi : i < l.length) (hx : x = l.getD i ⟨0, 0, 0, 0, 0, 0⟩) (hr : fz f D (lO f.hd x) (nJ f.hd) x x.h.toNat 0 a [] P = none) (h : gT f D (l.drop i) a P = r) : r = none := by
  rw [tT hi, ← hx, gT] at h
  unfold lO nJ at hr
  rw [hr] at h
  exact h.symm
theorem LG {a2 : Nat} {P2 : List Int} (hi : i < l.length) (hx : x = l.getD i ⟨0, 0, 0, 0, 0, 0⟩) (hr : fz f D (lO f.hd x) (nJ f.hd) x x.h.toNat 0 a [] P = some (a2, P2)) (h : gT f D (l.drop i) a P = r) : gT f D (l.drop (i + 1)) a2 P2 = r := by
  rw [tT hi, ← hx, gT] at h
  unfold lO nJ at hr
  rw [hr] at h
  exact h
theorem KP (hi : ¬ i < l.length) (h : gT f D (l.drop i) a P = r) : r = some P := by
  rw [List.drop_eq_nil_of_le (by omega), gT] at h
  exact h.symm
theorem Kj {bits : Int} (hi : i < l.length) (hx : x = l.getD i ⟨0, 0, 0, 0, 0, 0⟩) : nQ bits (l.drop i) = x.h.toNat * (1 + (fh x.w bits).toNat) + nQ bits (l.drop (i + 1)) := by rw [tT hi, ← hx, Bt]
theorem O1 (o : Option (Nat × List Int)) : o = none ∨ ∃ a P, o = some (a, P) := by
  match o with
  | none => exact .inl rfl
  | some (a, P) => exact .inr ⟨a, P, rfl⟩
end
inductive QV (B : List Int) (r : tp × Int) : Prop
  | cut (e : Int) (h : aa.cut B = .error e) (hr : r = (fo, e))
  | ord (l : List Ch) (h : aa.cut B = .ok l) (ho : dS l = false) (hr : r = (fo, 4))
  | head (l : List Ch) (h : aa.cut B = .ok l) (ho : dS l = true) (hh : eY (fJ l) ≠ 0) (hr : r = (fo, eY (fJ l)))
  | tab1 (l : List Ch) (h : aa.cut B = .ok l) (ho : dS l = true) (hh : eY (fJ l) = 0) (ht : ¬ jw (aO (fJ l)) (cI l bC) (fI l bC)) (hr : r = (fo, 4))
  | tab2 (l : List Ch) (h : aa.cut B = .ok l) (ho : dS l = true) (hh : eY (fJ l) = 0) (ht : jw (aO (fJ l)) (cI l bC) (fI l bC)) (hc : ¬ jJ (aO (fJ l)) (cI l bC) (cI l bZ) (fI l bZ)) (hr : r = (fo, 4))
  | open_ (l : List Ch) (z : List Int × Int) (h : aa.cut B = .ok l) (ho : dS l = true) (hh : eY (fJ l) = 0) (ht : jw (aO (fJ l)) (cI l bC) (fI l bC)) (hc : jJ (aO (fJ l)) (cI l bC) (cI l bZ) (fI l bZ)) (hz : aL.nU (dr l) (want (aO (fJ l))) z) (hr : r = mq (wB l) z)
theorem ot.PX {B : List Int} {r : tp × Int} (h : ot B r) : QV B r := by
  rcases h.ways with ⟨e, h1, h2⟩ | ⟨l, h1, h2, h3⟩ | ⟨l, h1, h2, h3, h4⟩ | ⟨l, h1, h2, h3, h4, h5⟩ | ⟨l, q, h1, h2, h3, h4, h5, h6⟩
  · exact .cut e h1 h2
  · exact .ord l h1 h2 h3
  · exact .head l h1 h2 h3 h4
  · by_cases ha : jw (aO (fJ l)) (cI l bC) (fI l bC)
    · exact .tab2 l h1 h2 h3 ha (fun q => h4 ⟨ha, q⟩) h5
    · exact .tab1 l h1 h2 h3 ha h5
  · refine .open_ l q h1 h2 h3 h4.1 h4.2 h5 ?_
    rcases h6 with ⟨a, b⟩ | ⟨a, b, c⟩ | ⟨a, b, c, d⟩ | ⟨dG, a, b, c, d⟩
    · rw [b]; unfold mq; rw [if_pos a]
    · rw [c]; unfold mq; rw [if_neg (fun q => q a)]; exact (if_pos b).symm
    · rw [d]; exact (FM (fun q => q a) (by show ¬ _ < want (aO (fJ l)); omega) c).symm
    · rw [d]; exact (FQ (f := wB l) (fun q => q a) (by show ¬ _ < want (aO (fJ l)); omega) c).symm
theorem rP {B : List Int} (h : eY B = 0) : deep (aO B).ay (aO B).dep ∧ bS (aO B).w (aO B).h = 0 := by
  rcases xQ B with ⟨_, e⟩ | ⟨_, _, e⟩ | ⟨_, _, _, e⟩ | ⟨_, _, _, _, e⟩ | ⟨_, _, _, _, _, e⟩ | ⟨_, _, _, _, _, _, e⟩ | ⟨_, _, _, _, _, _, _, e⟩ | ⟨_, h1, _, _, _, _, h2, _⟩
  all_goals first | (rw [h] at e; exact absurd e (by decide)) | exact ⟨h1, Classical.not_not.1 h2⟩
theorem GB {h : Hd} {pl tr : List Int} {has is : Bool} (hd : deep h.ay h.dep) (hB : az pl) (hBt : az tr) (hpl : pl.length < 500000000) (htl : tr.length < 500000000) (ha : jw h pl has) (hc : jJ h pl tr is) (h0 : has = false → pl = []) (h1 : is = false → tr = []) : gC ⟨h, pl, tr⟩ := by
  refine ⟨hd, hB, hBt, hpl, htl, fun q => ?_, fun q => ?_, fun q => ?_, fun q => ?_⟩
  all_goals have q : _ := q
  · cases is with
    | false => exact .inl (by rw [h1 rfl]; rfl)
    | true => have := hc rfl; have q : h.ay = 0 := q; show tr.length = 0 ∨ tr.length = 2; omega
  · cases is with
    | false => exact .inl (by rw [h1 rfl]; rfl)
    | true => have := hc rfl; have q : h.ay = 2 := q; show tr.length = 0 ∨ tr.length = 6; omega
  · cases is with
    | false => exact h1 rfl
    | true => have := hc rfl; have q : h.ay = 4 ∨ h.ay = 6 := q; omega
  · have q : h.ay = 3 := q
    cases has with
    | false => exact absurd q ha
    | true => exact ha.2.2.1
theorem HX (h : Hd) : gb (bB h) (parts h.ay * h.dep) = want h := rfl
theorem Da {l : List Ps} {i : Nat} (h : i < l.length) : l.getD i ⟨0, 0, 0, 0, 0, 0⟩ ∈ l := by
  rw [List.getD_eq_getElem?_getD, List.getElem?_eq_getElem h]
  exact List.getElem_mem h
theorem Jb {B : List Int} {mo : Int} {q : List Int × Int} (hB : az B) (hm : mo < 500000000) (h : aL.nU B mo q) : az q.1 ∧ q.1.length < 500000000 := by
  rcases h.ways hB hm with ⟨_, rfl⟩ | ⟨_, _, rfl⟩ | ⟨e, _, _, _, _, rfl⟩ | ⟨x, n, _, _, _, _, _, _, _, rfl⟩ | ⟨x, n, _, _, _, _, _, _, _, rfl⟩ | ⟨x, n, _, _, _, _, _, _, _, _, rfl⟩ | ⟨x, n, _, _, _, h1, h2, _, _, _, rfl⟩
  · exact ⟨jx, Nat.zero_lt_succ _⟩
  · exact ⟨jx, Nat.zero_lt_succ _⟩
  · exact ⟨jx, Nat.zero_lt_succ _⟩
  · exact ⟨jx, Nat.zero_lt_succ _⟩
  · exact ⟨jx, Nat.zero_lt_succ _⟩
  · exact ⟨jx, Nat.zero_lt_succ _⟩
  · exact ⟨h1, h2⟩
end Go.aa
namespace Go.aa
open Go.ak Go.Sl
theorem DC {L : List Int} {e : Int} (h : first L = .error e) : e ≠ 0 := by
  unfold first at h
  split at h
  · cases h; decide
  · split at h
    · cases h; decide
    · split at h
      · cases h; decide
      · split at h
        · cases h
        · cases h; decide
theorem yU : ∀ {f : Nat} {L : List Int} {a : List Ch} {e : Int}, gB f L a = .error e → e ≠ 0
  | 0, L, a, e, h => by rw [gB] at h; cases h; decide
  | f + 1, L, a, e, h => by
    rw [gB] at h
    split at h
    · rename_i e' he; cases h; exact DC he
    · split at h
      · split at h
        · cases h
        · cases h; decide
      · exact yU h
theorem JV {B : List Int} {e : Int} (h : cut B = .error e) : e ≠ 0 := by
  unfold cut at h
  split at h
  · cases h; decide
  · split at h
    · cases h; decide
    · split at h
      · exact yU h
      · cases h; decide
theorem lL {l : List Ch} (h : ∀ c ∈ l, az c.d) (k : List Int) : az (cI l k) := by
  unfold cI
  split
  · rename_i c hc; exact h c (List.mem_of_find?_eq_some hc)
  · exact jx
theorem KV {l : List Ch} {h : Hd} {P T : List Int} (h1 : h = aO (fJ l)) (h2 : P = cI l bC) (h3 : T = cI l bZ) : wB l = ⟨h, P, T⟩ := by subst h1; subst h2; subst h3; rfl
end Go.aa
namespace Go.aa
open Go.ak Go.Sl
theorem Lx {L : List Ch} {i : Nat} {x : Ch} (h : L[i]? = some x) : cS (L.take (i + 1)) = cS (L.take i) ++ iD x := by
  rw [nC h]
  unfold cS jK
  rw [List.flatMap_append, List.append_assoc]
  simp
theorem join_le (L : List Ch) (i : Nat) : (cS (L.take i)).length ≤ (cS L).length := by
  conv => rhs; rw [← List.take_append_drop i L]
  unfold cS jK
  rw [List.flatMap_append]
  simp only [List.length_append]
  omega
theorem IH (L : List Ch) : cS (L.take 0) = fx := by unfold cS jK; simp
theorem LZ {J k d : List Int} {n s : Int} (hn : n = (d.length : Int)) (hs : s = il k d) : J ++ [n / 16777216 % 256, n / 65536 % 256, n / 256 % 256, n % 256] ++ k ++ d ++ [s / 16777216 % 256, s / 65536 % 256, s / 256 % 256, s % 256] = J ++ iD ⟨k, d⟩ := by
  subst hn; subst hs
  unfold iD n9
  simp only [List.append_assoc]
theorem EB (x : Ch) : (iD x).length = 4 + x.k.length + x.d.length + 4 := by
  unfold iD
  simp only [List.length_append, yV]
  omega
theorem JG (P : List Int) (W y : Nat) : du P W y ++ [0] ++ two ((P.drop (4 * W * y)).take (4 * W)) = du P W (y + 1) := by
  rw [du, jf, List.append_assoc]; rfl
theorem NH {l : List Int} {i : Nat} (h : i < l.length) : two (l.take i) ++ [l.getD i 0 / 256, l.getD i 0 % 256] = two (l.take (i + 1)) := by
  rw [List.take_add_one]
  unfold two
  rw [List.flatMap_append]
  congr 1
  simp [h, List.getD_eq_getElem?_getD]
theorem HU : ot [] (fo, 2) := by
  unfold ot cut
  rfl
theorem BT : Sz [0, 0, 7, 65535] 1 1 := ⟨by decide, by decide, by decide, rfl, fun x hx => by
  simp only [List.mem_cons, List.not_mem_nil, or_false] at hx
  rcases hx with rfl | rfl | rfl | rfl <;> decide⟩
end Go.aa
namespace Go.aa
open Go.ak Go.Sl
theorem Bg {P : List Int} {W H y i : Nat} (hP : P.length = 4 * W * H) (hy : y < H) (hi : i < 4 * W) : ((P.drop (4 * W * y)).take (4 * W)).length = 4 * W ∧ ((P.drop (4 * W * y)).take (4 * W)).getD i 0 = P.getD (4 * W * y + i) 0 ∧ 4 * W * y + i < P.length := by
  have : 4 * W * (y + 1) ≤ 4 * W * H := Nat.mul_le_mul_left _ hy
  rw [Nat.mul_succ] at this
  refine ⟨by rw [List.length_take, List.length_drop]; omega, ?_, by omega⟩
  rw [List.getD_eq_getElem?_getD, List.getD_eq_getElem?_getD, List.getElem?_take, if_pos hi, List.getElem?_drop]
theorem za {P : List Int} {W H y : Nat} (s : Sz P W H) (hy : y ≤ H) : (du P W y).length ≤ 131328 := by
  obtain ⟨r, h⟩ := rQ P W y (H - y)
  have h2 := oz s
  rw [show y + (H - y) = H by omega] at h
  rw [h, List.length_append] at h2
  omega
def kK (P : List Int) (W y i : Nat) : List Int := du P W y ++ [0] ++ two (((P.drop (4 * W * y)).take (4 * W)).take i)
theorem BS (P : List Int) (W y : Nat) : du P W y ++ [0] = kK P W y 0 := by unfold kK; simp [two]
theorem Jj {P : List Int} {W H y i : Nat} (hP : P.length = 4 * W * H) (hy : y < H) (hi : i < 4 * W) : kK P W y i ++ [P.getD (4 * W * y + i) 0 / 256, P.getD (4 * W * y + i) 0 % 256] = kK P W y (i + 1) := by
  obtain ⟨h1, h2, _⟩ := Bg hP hy hi
  unfold kK
  rw [← h2, List.append_assoc, NH (by omega)]
theorem JM {P : List Int} {W H y : Nat} (hP : P.length = 4 * W * H) (hy : y < H) : kK P W y (4 * W) = du P W (y + 1) := by
  unfold kK
  rw [List.take_of_length_le (Nat.le_trans (List.length_take_le _ _) (Nat.le_refl _))]
  exact JG P W y
theorem Ii {P : List Int} {W H y i : Nat} (s : Sz P W H) (hy : y ≤ H) (hi : i ≤ 4 * W) : (kK P W y i).length ≤ 140000 := by
  have h1 := za s hy
  have h2 := s.w.2
  unfold kK
  simp only [List.length_append, yP, List.length_take, List.length_cons, List.length_nil]
  omega
theorem PJ {P : List Int} {W H : Nat} (s : Sz P W H) : P.length ≤ 65536 := by
  have h1 := s.len
  have h2 := s.wh
  rw [Nat.mul_assoc] at h1
  omega
def Good (r : tp × Int) : Prop := (r.2 ≠ 0 ∧ r.1 = fo) ∨ (r.2 = 0 ∧ bS r.1.w r.1.h = 0 ∧ (r.1.dG.length : Int) = 4 * r.1.w * r.1.h)
end Go.aa
namespace Go.Sl
abbrev I3 : Ec Int := aW 3 .i64
abbrev qA : Ec (Int × Int) := ⟨279, 2, fun x => [.int .i64 x.1, .int .i64 x.2], (0, 0), fun _ => rfl, fun _ => rfl⟩
structure Cv where
  p1 : Option Addr
  c1 : Nat
  p2 : Option Addr
  c2 : Nat
def HC (b : Nat) (ls : List Int) : ab := fun w0 h => ∃ i : Cv, True ∧ dq w0 [ao b 275 (CA [.slice i.p1 ls.length i.c1] .i64 (ag.cQ ls) [.slice i.p2 (ag.ord ls).length i.c2, .int .i64 (ag.dj ls)]), Row qA i.p1 ls.length i.c1 (ag.words ls), Row I3 i.p2 (ag.ord ls).length i.c2 (ag.ord ls)] h
theorem oN {b c1 c2 : Nat} {p1 p2 : Option Addr} {ls : List Int} {ws : List (Int × Int)} {w0 : World} {h : Hp} (e : ws = ag.words ls)
    (hh : dq w0 [ao b 275 (CA [.slice p1 ls.length c1] .i64 (ag.cQ ls) [.slice p2 (ag.ord ls).length c2, .int .i64 (ag.dj ls)]), Row qA p1 ls.length c1 ws, Row I3 p2 (ag.ord ls).length c2 (ag.ord ls)] h) : HC b ls w0 h := by
  subst e; exact ⟨⟨p1, c1, p2, c2⟩, trivial, hh⟩
end Go.Sl
namespace Go.Sl
def RC (b : Nat) (ls : List Int) : ab := fun w0 h => ∃ i : Cv, True ∧ dq w0 [ao b 231 (CA [] .i64 (ag.cQ ls) [.slice i.p1 (ag.ord ls).length i.c1, .slice i.p2 ls.length i.c2]), Row I3 i.p1 (ag.ord ls).length i.c1 (ag.ord ls), Row I3 i.p2 ls.length i.c2 ls] h
end Go.Sl
namespace Go.Sl
abbrev U5 : Ec Int := aW 5 .u8
structure Lv where
  p1 : Option Addr
  c1 : Nat
  p2 : Option Addr
  c2 : Nat
def LW (b : Nat) (B : List Int) (at_ : Nat) (out : List Int) (free : Int) : ab := fun w0 h => ∃ i : Lv, True ∧ dq w0 [ao b 236 [.slice i.p1 B.length i.c1, .slice i.p2 out.length i.c2, .int .i64 (at_ : Int), .int .i64 free], Row U5 i.p1 B.length i.c1 B, Row U5 i.p2 out.length i.c2 out] h
theorem oG {b at_ : Nat} {p1 p2 : Option Addr} {c1 c2 : Nat} {B out : List Int} {free : Int} {w0 : World} {h : Hp}
    (hh : dq w0 [ao b 236 [.slice p1 B.length c1, .slice p2 out.length c2, .int .i64 (at_ : Int), .int .i64 free], Row U5 p1 B.length c1 B, Row U5 p2 out.length c2 out] h) : LW b B at_ out free w0 h := ⟨⟨p1, c1, p2, c2⟩, trivial, hh⟩
def WB (b : Nat) (bs : List Int) : ab := fun w0 h => ∃ i : List Int × Nat, (ak.Pk bs i.1 i.2 ∧ i.2 < 8) ∧ dq w0 [LW b [] 0 i.1 (i.2 : Int)] h
end Go.Sl
namespace Go.Sl
structure Mi where
  po : Option Addr
  co : Nat
def MS (b bl : Nat) (sz mo : Int) (li di : Value) (s : ad.St) : ab := fun w0 h => ∃ i : Mi, True ∧ dq w0 [ao b 223 [.pointer (some ⟨bl, 0, none⟩), .int .i64 sz, .int .i64 mo, .slice i.po s.out.length i.co, .bool s.ended, .int .i64 0, .int .i64 s.kind, .int .i64 (s.left : Int), .bool s.last, li, di, .int .i64 (s.aB : Int), .int .i64 (s.cE : Int)], Row U5 i.po s.out.length i.co s.out] h
theorem dE {b bl : Nat} {sz mo : Int} {li di : Value} {s : ad.St} {po : Option Addr} {co n : Nat} {w0 : World} {h : Hp} (hn : n = s.out.length)
    (hh : dq w0 [ao b 223 [.pointer (some ⟨bl, 0, none⟩), .int .i64 sz, .int .i64 mo, .slice po n co, .bool s.ended, .int .i64 0, .int .i64 s.kind, .int .i64 (s.left : Int), .bool s.last, li, di, .int .i64 (s.aB : Int), .int .i64 (s.cE : Int)], Row U5 po n co s.out] h) : MS b bl sz mo li di s w0 h := by
  subst hn; exact ⟨⟨po, co⟩, trivial, hh⟩
theorem iQ {b bl : Nat} {sz mo : Int} {li di : Value} {s : ad.St} {w0 : World} {h : Hp} (hh : MS b bl sz mo li di s w0 h) : ∃ i : Mi, True ∧ dq w0 [ao b 223 [.pointer (some ⟨bl, 0, none⟩), .int .i64 sz, .int .i64 mo, .slice i.po s.out.length i.co, .bool s.ended, .int .i64 0, .int .i64 s.kind, .int .i64 (s.left : Int), .bool s.last, li, di, .int .i64 (s.aB : Int), .int .i64 (s.cE : Int)], Row U5 i.po s.out.length i.co s.out] h := hh
structure Vx where
  v3 : Value
  v4 : Value
  v5 : Value
  v6 : Value
  v7 : Value
  v8 : Value
  v9 : Value
  v10 : Value
  v11 : Value
  v12 : Value
def MX (b bl : Nat) (sz mo : Int) : ab := fun w0 h => ∃ i : Vx, True ∧ dq w0 [ao b 223 [.pointer (some ⟨bl, 0, none⟩), .int .i64 sz, .int .i64 mo, i.v3, i.v4, i.v5, i.v6, i.v7, i.v8, i.v9, i.v10, i.v11, i.v12]] h
theorem cX {b bl : Nat} {sz mo : Int} {v3 v4 v5 v6 v7 v8 v9 v10 v11 v12 : Value} {w0 : World} {h : Hp}
    (hh : dq w0 [ao b 223 [.pointer (some ⟨bl, 0, none⟩), .int .i64 sz, .int .i64 mo, v3, v4, v5, v6, v7, v8, v9, v10, v11, v12]] h) : MX b bl sz mo w0 h := ⟨⟨v3, v4, v5, v6, v7, v8, v9, v10, v11, v12⟩, trivial, hh⟩
def PE (e : Int) (ch : List PanicEntry) : Prop := (ch = ko 194 (.agg #[]) ∧ e = 2) ∨ (ch = ko 237 (.agg #[]) ∧ e = 4) ∨ (ch = ko 27 (.int .i64 e) ∧ e ≠ 0)
theorem PE.no {e : Int} (h : e ≠ 0) : PE e (ko 27 (.int .i64 e)) := .inr (.inr ⟨rfl, h⟩)
theorem PE.end_ : PE 2 (ko 194 (.agg #[])) := .inl ⟨rfl, rfl⟩
theorem PE.none_ : PE 4 (ko 237 (.agg #[])) := .inr (.inl ⟨rfl, rfl⟩)
def iJ {α : Type} (E : Except Int α) (R : α → Value → List ab → Prop) (Gx : List ab) : Ending → List ab → Prop := tK (fun v G => ∃ x, E = .ok x ∧ R x v G) (fun ch G => ∃ e, E = .error e ∧ PE e ch ∧ G = Gx)
section
variable {P : Program} {f : FuncId} {args : List Value} {Pre Gx : List ab} {α : Type} {E : Except Int α} {R : α → Value → List ab → Prop}
theorem aK.ok {x : α} (h : aK P f args Pre (iJ E R Gx)) (hE : E = .ok x) : aK P f args Pre (aR (R x)) := h.mono fun e G h => by
  rcases h with ⟨v, rfl, x', h1, h2⟩ | ⟨ch, rfl, e', h1, _⟩
  · rw [hE] at h1; cases h1; exact ⟨v, rfl, h2⟩
  · rw [hE] at h1; cases h1
theorem aK.err {e : Int} (h : aK P f args Pre (iJ E R Gx)) (hE : E = .error e) : aK P f args Pre (rD fun ch G => PE e ch ∧ G = Gx) := h.mono fun e' G h => by
  rcases h with ⟨v, rfl, x', h1, h2⟩ | ⟨ch, rfl, e', h1, h2⟩
  · rw [hE] at h1; cases h1
  · rw [hE] at h1; cases h1; exact ⟨ch, rfl, h2⟩
variable {C : Ctx} {Q : QT} {En : Env} {L F G : List ab} {rs : Array ResultVar} {v : Value} {ch : List PanicEntry}
theorem kN {x : α} (hE : E = .ok x) (hr : lA C rs En L v) (hR : R x v G) (hs : Sub L (G ++ F)) : oL C rs F (iJ E R Gx) .ret En L := ⟨v, G, hr, .inl ⟨v, rfl, x, hE, hR⟩, hs⟩
theorem iE {x : α} (hE : E = .ok x) (hr : lA C rs En L v) (hR : R x v G) (hs : Sub L (G ++ F)) : oL C rs F (iJ E R Gx) .normal En L := ⟨v, G, hr, .inl ⟨v, rfl, x, hE, hR⟩, hs⟩
theorem ez {e : Int} (hE : E = .error e) (hp : PE e ch) (hs : Sub L (Gx ++ F)) : oL C rs F (iJ E R Gx) (.panic ch) En L := ⟨Gx, .inr ⟨ch, rfl, e, hE, hp, rfl⟩, hs⟩
theorem lz {e : Int} (hE : E = .error e) (hp : PE e ch) (hs : Sub L (Gx ++ F)) : ∃ G, iJ E R Gx (.panicked ch) G ∧ Sub L (G ++ F) := ⟨Gx, .inr ⟨ch, rfl, e, hE, hp, rfl⟩, hs⟩
end
theorem ve {M F : List ab} : Drop (M ++ F) F := by
  induction M with
  | nil => exact .refl
  | cons a M ih => exact .skip ih
theorem wS {a0 : ab} {M F : List ab} : Drop (a0 :: (M ++ F)) F := .skip ve
end Go.Sl
namespace Go.Proofs.YtmaiakpjgomnpaaGreat
open Go.Sl
theorem V.a194 : gZ Tryz.prog 194 = some 0 := by kernel_rfl
theorem V.a229 : gZ Tryz.prog 229 = some 16 := by kernel_rfl
theorem V.Qd : gZ Tryz.prog 237 = some 0 := by kernel_rfl
theorem V.Mg : gZ Tryz.prog 246 = some 2 := by kernel_rfl
theorem V.P1 : gZ Tryz.prog 279 = some 2 := by kernel_rfl
theorem V.pe : jS Tryz.prog 229 = some (16, 3, 1) := by kernel_rfl
theorem V.z7 : jS Tryz.prog 246 = some (2, 3, 1) := by kernel_rfl
theorem V.KQ : aJ Tryz.prog 103 = true := by kernel_rfl
theorem V.L7 : aJ Tryz.prog 118 = true := by kernel_rfl
theorem V.Qe : aJ Tryz.prog 119 = true := by kernel_rfl
theorem V.Au : aJ Tryz.prog 128 = true := by kernel_rfl
theorem V.O2 : aJ Tryz.prog 135 = true := by kernel_rfl
theorem V.Mt : aJ Tryz.prog 145 = true := by kernel_rfl
theorem V.qv : aJ Tryz.prog 146 = true := by kernel_rfl
theorem V.O4 : aJ Tryz.prog 147 = true := by kernel_rfl
theorem V.LO : aJ Tryz.prog 148 = true := by kernel_rfl
theorem V.L9 : aJ Tryz.prog 149 = true := by kernel_rfl
theorem V.LH : aJ Tryz.prog 150 = true := by kernel_rfl
theorem V.PH : aJ Tryz.prog 160 = true := by kernel_rfl
theorem V.KE : aJ Tryz.prog 166 = true := by kernel_rfl
theorem V.Lb : aJ Tryz.prog 167 = true := by kernel_rfl
theorem V.Jm : aJ Tryz.prog 168 = true := by kernel_rfl
theorem V.KN : aJ Tryz.prog 169 = true := by kernel_rfl
theorem V.P9 : aJ Tryz.prog 170 = true := by kernel_rfl
theorem V.LY : aJ Tryz.prog 178 = true := by kernel_rfl
theorem V.uC : aJ Tryz.prog 179 = true := by kernel_rfl
theorem V.Iw : aJ Tryz.prog 180 = true := by kernel_rfl
theorem V.K1 : aJ Tryz.prog 181 = true := by kernel_rfl
theorem V.Lg : aJ Tryz.prog 182 = true := by kernel_rfl
theorem V.fi : aJ Tryz.prog 183 = true := by kernel_rfl
theorem V.Jd : aJ Tryz.prog 195 = true := by kernel_rfl
theorem V.iO : aJ Tryz.prog 197 = true := by kernel_rfl
theorem V.Qf : aJ Tryz.prog 198 = true := by kernel_rfl
theorem V.O7 : aJ Tryz.prog 199 = true := by kernel_rfl
theorem V.LD : aJ Tryz.prog 200 = true := by kernel_rfl
theorem V.sf : aJ Tryz.prog 201 = true := by kernel_rfl
theorem V.KC : aJ Tryz.prog 202 = true := by kernel_rfl
theorem V.JP : aJ Tryz.prog 203 = true := by kernel_rfl
theorem V.Qb : aJ Tryz.prog 204 = true := by kernel_rfl
theorem V.Qg : aJ Tryz.prog 215 = true := by kernel_rfl
theorem V.PI : aJ Tryz.prog 216 = true := by kernel_rfl
theorem V.Pb : aJ Tryz.prog 217 = true := by kernel_rfl
theorem V.OP : aJ Tryz.prog 218 = true := by kernel_rfl
theorem V.zX : aJ Tryz.prog 220 = true := by kernel_rfl
theorem V.oU : aJ Tryz.prog 221 = true := by kernel_rfl
theorem V.PY : aJ Tryz.prog 222 = true := by kernel_rfl
theorem V.IT : aJ Tryz.prog 223 = true := by kernel_rfl
theorem V.PU : aJ Tryz.prog 229 = true := by kernel_rfl
theorem V.IK : aJ Tryz.prog 230 = true := by kernel_rfl
theorem V.Ml : aJ Tryz.prog 245 = true := by kernel_rfl
theorem V.Ac : aJ Tryz.prog 246 = true := by kernel_rfl
theorem V.OS : aJ Tryz.prog 253 = true := by kernel_rfl
theorem V.EH : aJ Tryz.prog 256 = true := by kernel_rfl
theorem V.QM : aJ Tryz.prog 63 = true := by kernel_rfl
theorem V.zc : aJ Tryz.prog 91 = true := by kernel_rfl
theorem V.JK : aJ Tryz.prog 92 = true := by kernel_rfl
theorem V.zJ : mI Tryz.prog 194 = true := by kernel_rfl
theorem V.Ew : mI Tryz.prog 237 = true := by kernel_rfl
theorem V.Cr : mI Tryz.prog 27 = true := by kernel_rfl
theorem V.A9 : bW Tryz.prog 156 0 = some 0 := by kernel_rfl
theorem V.xr : bW Tryz.prog 156 2 = some 2 := by kernel_rfl
theorem V.eK : bW Tryz.prog 223 0 = some 0 := by kernel_rfl
theorem V.Lt : bW Tryz.prog 223 1 = some 1 := by kernel_rfl
theorem V.uK : bW Tryz.prog 223 10 = some 10 := by kernel_rfl
theorem V.Qo : bW Tryz.prog 223 11 = some 11 := by kernel_rfl
theorem V.rf : bW Tryz.prog 223 12 = some 12 := by kernel_rfl
theorem V.Cs : bW Tryz.prog 223 2 = some 2 := by kernel_rfl
theorem V.kV : bW Tryz.prog 223 3 = some 3 := by kernel_rfl
theorem V.xS : bW Tryz.prog 223 4 = some 4 := by kernel_rfl
theorem V.Jr : bW Tryz.prog 223 5 = some 5 := by kernel_rfl
theorem V.QU : bW Tryz.prog 223 6 = some 6 := by kernel_rfl
theorem V.QD : bW Tryz.prog 223 7 = some 7 := by kernel_rfl
theorem V.Rs : bW Tryz.prog 223 8 = some 8 := by kernel_rfl
theorem V.xg : bW Tryz.prog 223 9 = some 9 := by kernel_rfl
theorem V.xf : bW Tryz.prog 236 0 = some 0 := by kernel_rfl
theorem V.QO : bW Tryz.prog 275 0 = some 0 := by kernel_rfl
theorem V.wx : bW Tryz.prog 275 1 = some 1 := by kernel_rfl
theorem V.Iy : bW Tryz.prog 275 2 = some 17 := by kernel_rfl
theorem V.QH : bW Tryz.prog 275 3 = some 18 := by kernel_rfl
theorem V.mixed : Tryz.prog.follows .mixedOrders = true := by kernel_rfl
theorem V.F3 : fC Tryz.prog 156 = some [(0, 1), (1, 1), (2, 1), (3, 1)] := by kernel_rfl
theorem V.Nr : fC Tryz.prog 194 = some [] := by kernel_rfl
theorem V.FL : fC Tryz.prog 223 = some [(0, 1), (1, 1), (2, 1), (3, 1), (4, 1), (5, 1), (6, 1), (7, 1), (8, 1), (9, 1), (10, 1), (11, 1), (12, 1)] := by kernel_rfl
theorem V.NT : fC Tryz.prog 236 = some [(0, 4)] := by kernel_rfl
theorem V.Nt : fC Tryz.prog 237 = some [] := by kernel_rfl
theorem V.ME : fC Tryz.prog 275 = some [(0, 1), (1, 16), (17, 1), (18, 1)] := by kernel_rfl
theorem V.M6 : fC Tryz.prog 279 = some [(0, 1), (1, 1)] := by kernel_rfl
theorem V.gR : dm Tryz.prog 204 = true := by kernel_rfl
theorem V.dT : dm Tryz.prog 219 = true := by kernel_rfl
theorem V.eA : dm Tryz.prog 22 = true := by kernel_rfl
theorem V.pU : dm Tryz.prog 221 = true := by kernel_rfl
theorem V.rH : dm Tryz.prog 27 = true := by kernel_rfl
theorem V.Qj : dm Tryz.prog 273 = true := by kernel_rfl
theorem V.s3 : dm Tryz.prog 3 = true := by kernel_rfl
theorem V.s4 : dm Tryz.prog 4 = true := by kernel_rfl
theorem V.lg : dm Tryz.prog 47 = true := by kernel_rfl
theorem V.s5 : dm Tryz.prog 5 = true := by kernel_rfl
theorem V.bP : sliceB Tryz.prog 22 = some (5, 1, 1) := by kernel_rfl
theorem V.F8 : sliceB Tryz.prog 247 = some (246, 2, 16) := by kernel_rfl
theorem V.FC : sliceB Tryz.prog 273 = some (279, 2, 16) := by kernel_rfl
theorem V.cU : sliceB Tryz.prog 47 = some (3, 1, 8) := by kernel_rfl
theorem V.u3 : kt Tryz.prog 3 = true := by kernel_rfl
theorem V.u5 : kt Tryz.prog 5 = true := by kernel_rfl
theorem V.Gi : kt Tryz.prog 52 = true := by kernel_rfl
theorem V.oc : kt Tryz.prog 76 = true := by kernel_rfl
theorem V.z156 : dH Tryz.prog 156 = some ([.slice none 0 0, .slice none 0 0, .int .i64 0, .int .i64 0]) := by kernel_rfl
theorem V.z194 : dH Tryz.prog 194 = some ([]) := by kernel_rfl
theorem V.KR : dH Tryz.prog 223 = some ([.pointer none, .int .i64 0, .int .i64 0, .slice none 0 0, .bool false, .int .i64 0, .int .i64 0, .int .i64 0, .bool false, .pointer none, .pointer none, .int .i64 0, .int .i64 0]) := by kernel_rfl
theorem V.z236 : dH Tryz.prog 236 = some ([.slice none 0 0, .slice none 0 0, .int .i64 0, .int .i64 0]) := by kernel_rfl
theorem V.JJ : dH Tryz.prog 237 = some ([]) := by kernel_rfl
theorem V.Em : dH Tryz.prog 246 = some ([.int .i64 0, .int .i64 0]) := by kernel_rfl
theorem V.Ol : dH Tryz.prog 27 = some ([.int .i64 0]) := by kernel_rfl
theorem V.O3 : dH Tryz.prog 275 = some ([.slice none 0 0, .int .i64 0, .int .i64 0, .int .i64 0, .int .i64 0, .int .i64 0, .int .i64 0, .int .i64 0, .int .i64 0, .int .i64 0, .int .i64 0, .int .i64 0, .int .i64 0, .int .i64 0, .int .i64 0, .int .i64 0, .int .i64 0, .slice none 0 0, .int .i64 0]) := by kernel_rfl
theorem V.Kg : dH Tryz.prog 279 = some ([.int .i64 0, .int .i64 0]) := by kernel_rfl
theorem V.z3 : dH Tryz.prog 3 = some ([.int .i64 0]) := by kernel_rfl
theorem V.z5 : dH Tryz.prog 5 = some ([.int .u8 0]) := by kernel_rfl
end Go.Proofs.YtmaiakpjgomnpaaGreat
namespace Go.Proofs.YtmaiakpjgomnpaaGreat
open Go.Sl 
theorem aH : dC Tryz.prog ⟨[47], []⟩ = true := by kernel_rfl
theorem mU (p : Option Addr) (n cap : Nat) (fv : Value) (P A B C Z : List Int) (a b k0 : Int) (ha : a = P.length) (hbb : b = (P.length + A.length + B.length : Nat)) (hk0 : k0 = A.length) (hC : C.length = A.length) (hn : P.length + A.length + B.length + A.length + Z.length = n) (hn2 : n ≤ 1000000) : aK Tryz.prog 256 [.slice p n cap, .int .i64 a, .int .i64 b, .int .i64 k0, fv] [Row I3 p n cap (P ++ A ++ B ++ C ++ Z)] (aR fun v G => v = .tuple #[] ∧ G = [Row I3 p n cap (P ++ C ++ B ++ A ++ Z)]) := by
 refine ax [(0, _), (1, _), (2, _), (3, _), (4, _)] Tryz.func256 rfl Tryz.ntmps256 rfl rfl ?_
 intro w0 F
 refine rT aH 6 rfl ?_
 rw [show P ++ A ++ B ++ C ++ Z = P ++ (C.take 0 ++ A.drop 0) ++ B ++ (A.take 0 ++ C.drop 0) ++ Z by simp]
 refine dV (fun (k : Nat) => [(0, .slice p n cap), (1, .int .i64 a), (2, .int .i64 b), (3, .int .i64 k0), (10, .int .i64 (k : Int))]) (fun (k : Nat) => Row I3 p n cap (P ++ (C.take k ++ A.drop k) ++ B ++ (A.take k ++ C.drop k) ++ Z) :: F) (fun (k : Nat) => k ≤ A.length) (fun (k : Nat) => A.length - k) (i1 (0) ?_ (dk ln) (sub (aw .nil) au)) ?_
 ·exact Nat.zero_le _
 intro k
 rintro hk
 refine rL aH 8 rfl ?_
 refine aP rfl (fun h13 => ?_) (fun h13 => ?_)
 ·refine rC aH 4 rfl ?_
  refine wN [pz 0 [] [0], pz 0 [] [1], pz 0 [] [10], pz 6 [1, 2] [], pz 0 [] [0], pz 0 [] [2], pz 0 [] [10], pz 96 [5, 6] [], pz 0 [] [0], pz 0 [] [2], pz 0 [] [10], pz 1536 [9, 10] [], pz 3840 [8, 11] [], pz 7936 [12] [], pz 0 [] [0], pz 0 [] [1], pz 0 [] [10], pz 98304 [15, 16] [], pz 245760 [14, 17] [], pz 507904 [18] [], pz 1048335 [0, 3] [], pz 2096911 [20, 13] [], pz 4194303 [4, 7] [], pz 8388607 [22, 19] []] [⟨fun y => Row I3 p n cap (P ++ (C.take k ++ A.drop k) ++ B ++ (A.take k ++ C.drop k) ++ Z), none, some 21, [12, 13, 18, 19, 20]⟩, ⟨fun y => Row I3 p n cap ((P ++ (C.take k ++ A.drop k) ++ B ++ (A.take k ++ C.drop k) ++ Z).set (a + (k : Int)).toNat ((I3).g (P ++ (C.take k ++ A.drop k) ++ B ++ (A.take k ++ C.drop k) ++ Z) (b + (k : Int)))), some 21, some 23, [22]⟩, ⟨fun y => Row I3 p n cap (((P ++ (C.take k ++ A.drop k) ++ B ++ (A.take k ++ C.drop k) ++ Z).set (a + (k : Int)).toNat ((I3).g (P ++ (C.take k ++ A.drop k) ++ B ++ (A.take k ++ C.drop k) ++ Z) (b + (k : Int)))).set (b + (k : Int)).toNat ((I3).g (P ++ (C.take k ++ A.drop k) ++ B ++ (A.take k ++ C.drop k) ++ Z) (a + (k : Int)))), some 23, none, []⟩] F V.mixed ?_
  iterate 3 refine nM ?_
  refine nV (fun y hA L => dz rfl rfl wI) ?_
  iterate 3 refine nM ?_
  refine nV (fun y hA L => dz rfl rfl wI) ?_
  iterate 3 refine nM ?_
  refine nV (fun y hA L => dz rfl rfl wI) ?_
  refine nR (fun y FF hA => xI V.cU (own an)) ?_
  refine nR (fun y FF hA => xL V.s3 (own an)) ?_
  iterate 3 refine nM ?_
  refine nV (fun y hA L => dz rfl rfl wI) ?_
  refine nR (fun y FF hA => xI V.cU (own an)) ?_
  refine nR (fun y FF hA => xL V.s3 (own an)) ?_
  refine nR (fun y FF hA => xI V.cU (own an)) ?_
  refine nE (fun y FF hA => dp (ir (c := (I3)) (_) V.s3 rfl rfl rfl (by exact cZ) (by omega) (by omega) rfl rfl) ⟨rfl, .refl _⟩) ?_
  refine nR (fun y FF hA => xI V.cU (own an)) ?_
  refine nE (fun y FF hA => dp (ir (c := (I3)) (_) V.s3 rfl rfl rfl (by exact cZ) (by omega) (by omega) rfl rfl) ⟨rfl, .refl _⟩) ?_
  refine aX ?_
  intro y hA
  clear hA
  show lI _ _ _ _ (Row I3 p n cap (((P ++ (C.take k ++ A.drop k) ++ B ++ (A.take k ++ C.drop k) ++ Z).set (a + (k : Int)).toNat ((I3).g (P ++ (C.take k ++ A.drop k) ++ B ++ (A.take k ++ C.drop k) ++ Z) (b + (k : Int)))).set (b + (k : Int)).toNat ((I3).g (P ++ (C.take k ++ A.drop k) ++ B ++ (A.take k ++ C.drop k) ++ Z) (a + (k : Int)))) :: F)
  refine kA ?_
  refine bu ?_
  refine bo ?_
  refine oV (aG rfl) ?_
  refine oV (dz rfl rfl wI) ?_
  refine oV (ed rfl) ?_
  refine cH ?_
  have e1 : (a + (k : Int)).toNat = P.length + k := by omega
  have e2 : (b + (k : Int)).toNat = P.length + A.length + B.length + k := by omega
  simp only [Ec.g, e1, e2]
  rw [dD.x8 (by omega) hC]
  refine j1 (k + 1) ?_ (dk ln) (sub (aw .nil) au)
  exact ⟨by omega, by omega⟩
 ·refine rC aH 4 rfl ?_
  have hke : k = A.length := by omega
  subst hke
  rw [show P ++ (C.take A.length ++ A.drop A.length) ++ B ++ (A.take A.length ++ C.drop A.length) ++ Z = P ++ C ++ B ++ A ++ Z by rw [List.drop_length, List.take_length, ← hC, List.take_length, List.drop_length]; simp]
  exact iV fK ⟨rfl, rfl⟩ (sub (aw .nil) au)
theorem CU (p : Option Addr) (n cap : Nat) (fv : Value) (P X Y Z : List Int) (a m b : Int) (ha : a = P.length) (hm : m = (P.length + X.length : Nat)) (hbb : b = (P.length + X.length + Y.length : Nat)) (hX : 0 < X.length) (hY : 0 < Y.length) (hn : P.length + X.length + Y.length + Z.length = n) (hn2 : n ≤ 1000000) : aK Tryz.prog 253 [.slice p n cap, .int .i64 a, .int .i64 m, .int .i64 b, fv] [Row I3 p n cap (P ++ X ++ Y ++ Z)] (aR fun v G => v = .tuple #[] ∧ G = [Row I3 p n cap (P ++ Y ++ X ++ Z)]) := by
 refine ax [(0, _), (1, _), (2, _), (3, _), (4, _)] Tryz.func253 rfl Tryz.ntmps253 rfl rfl ?_
 intro w0 F
 refine Ca aH 18 rfl (by omega) ?_
 rw [show m - a = (X.length : Int) by omega, show b - m = (Y.length : Int) by omega]
 refine HT (fun (P2 : List Int) (X2 : List Int) (Y2 : List Int) (Z2 : List Int) => [(0, .slice p n cap), (2, .int .i64 m), (4, fv), (10, .int .i64 (X2.length : Int)), (11, .int .i64 (Y2.length : Int))]) (fun (P2 : List Int) (X2 : List Int) (Y2 : List Int) (Z2 : List Int) => Row I3 p n cap (P2 ++ X2 ++ Y2 ++ Z2) :: F) (fun (P2 : List Int) (X2 : List Int) (Y2 : List Int) (Z2 : List Int) => P2 ++ Y2 ++ X2 ++ Z2 = P ++ Y ++ X ++ Z ∧ m = (P2.length + X2.length : Nat) ∧ 0 < X2.length ∧ 0 < Y2.length ∧ P2.length + X2.length + Y2.length + Z2.length = n) (fun (P2 : List Int) (X2 : List Int) (Y2 : List Int) (Z2 : List Int) => X2.length + Y2.length) (i4 (P) (X) (Y) (Z) ?_ (dk ln) (sub (aw .nil) au)) ?_
 ·exact ⟨rfl, hm, hX, hY, hn⟩
 intro P2 X2 Y2 Z2
 rintro ⟨hT, hm2, hX2, hY2, hn3⟩
 refine rL aH 8 rfl ?_
 refine aP rfl (fun h20 => ?_) (fun h20 => ?_)
 ·refine rC aH 10 rfl ?_
  refine aP rfl (fun h23 => ?_) (fun h23 => ?_)
  ·refine rC aH 1 rfl ?_
   obtain ⟨A, B, hX2, hA⟩ : ∃ A B, X2 = A ++ B ∧ A.length = Y2.length := ⟨X2.take Y2.length, X2.drop Y2.length, by simp, by simp; omega⟩
   subst hX2
   rw [← List.append_assoc P2 A B]
   refine fQ aH 8 rfl (by omega) ?_
   refine ai (mU p n cap _ P2 A B Y2 Z2 _ _ _ (by omega) (by (simp only [List.length_append, List.length_nil] at *; omega)) (by omega) (by omega) (by (simp only [List.length_append, List.length_nil] at *; omega)) hn2) V.EH  rfl (aw .nil) rfl ?_
   rintro _ _ ⟨rfl, rfl⟩
   refine cV aH 9 rfl (by omega) ?_
   (rw [show (((A ++ B).length : Nat) : Int) - (Y2.length : Int) = (B.length : Int) by simp only [List.length_append]; omega, show (Y2.length : Int) = (A.length : Int) by omega]; simp only [List.length_append] at *; exact j4 (y0 := P2 ++ Y2) (y1 := B) (y2 := A) (y3 := Z2) ⟨⟨by rw [← hT]; simp, by simp only [List.length_append]; omega, by omega, by omega, by simp only [List.length_append]; omega⟩, by omega⟩ (dk ln) (sub (aw .nil) au))
  ·refine rC aH 1 rfl ?_
   obtain ⟨B, C2, hY2, hC2⟩ : ∃ B C2, Y2 = B ++ C2 ∧ C2.length = X2.length := ⟨Y2.take (Y2.length - X2.length), Y2.drop (Y2.length - X2.length), by simp, by simp; omega⟩
   subst hY2
   rw [← List.append_assoc (P2 ++ X2) B C2]
   refine fQ aH 12 rfl (by omega) ?_
   refine ai (mU p n cap _ P2 X2 B C2 Z2 _ _ _ (by omega) (by (simp only [List.length_append, List.length_nil] at *; omega)) (by omega) (by omega) (by (simp only [List.length_append, List.length_nil] at *; omega)) hn2) V.EH  rfl (aw .nil) rfl ?_
   rintro _ _ ⟨rfl, rfl⟩
   refine cV aH 9 rfl (by omega) ?_
   (rw [show (((B ++ C2).length : Nat) : Int) - (X2.length : Int) = (B.length : Int) by simp only [List.length_append]; omega, show (X2.length : Int) = (C2.length : Int) by omega, List.append_assoc (P2 ++ C2 ++ B) X2 Z2]; simp only [List.length_append] at *; exact j4 (y0 := P2) (y1 := C2) (y2 := B) (y3 := X2 ++ Z2) ⟨⟨by rw [← hT]; simp, by omega, by omega, by omega, by simp only [List.length_append]; omega⟩, by omega⟩ (dk ln) (sub (aw .nil) au))
 ·refine rC aH 5 rfl ?_
  rw [show P2 ++ X2 ++ Y2 ++ Z2 = P2 ++ X2 ++ [] ++ Y2 ++ Z2 by simp]
  refine fQ aH 8 rfl (by omega) ?_
  refine ai (mU p n cap _ P2 X2 [] Y2 Z2 _ _ _ (by omega) (by omega) (by omega) (by omega) (by (simp only [List.length_append, List.length_nil] at *; omega)) hn2) V.EH  rfl (aw .nil) rfl ?_
  rintro _ _ ⟨rfl, rfl⟩
  refine cH ?_
  rw [show P2 ++ Y2 ++ [] ++ X2 ++ Z2 = P ++ Y ++ X ++ Z by rw [List.append_nil]; exact hT]
  exact iV fK ⟨rfl, rfl⟩ (sub (aw .nil) au)
set_option maxHeartbeats 4000000 in
theorem qE (p : Option Addr) (n cap : Nat) (cf : Nat) (fs cs : List Value) (S : ab) (key : Int → Int) (Pd : Int → Prop) (hb : aJ Tryz.prog cf = true) (hf : ∀ x y, Pd x → Pd y → aK Tryz.prog cf (fs ++ [.int .i64 x, .int .i64 y] ++ cs) [S] (aR fun v G => v = .int .i64 (mv (key x) (key y)) ∧ G = [S])) (l : List Int) (aI bI : Int) (a b : Nat) (ha : aI = a) (hbI : bI = b) (hab : a ≤ b) (hbn : b ≤ n) (hn2 : n ≤ 1000000) (hpd : ∀ i, i < n → Pd (l.getD i I3.d)) : aK Tryz.prog 245 [.slice p n cap, .int .i64 aI, .int .i64 bI, .func (.func cf) fs.toArray cs.toArray] [Row I3 p n cap (l), S] (aR fun v G => v = .tuple #[] ∧ ∃ l2, dD.Rl key I3.d l l2 a b ∧ dD.Sd key I3.d l2 a b ∧ G = [Row I3 p n cap (l2), S]) := by
 refine ax [(0, _), (1, _), (2, _), (3, _)] Tryz.func245 rfl Tryz.ntmps245 rfl rfl ?_
 intro w0 F
 refine Fa (own an) (fun hlen => ?_)
 refine Ca aH 8 rfl (by omega) ?_
 rw [show aI + 1 = ((a + 1 : Nat) : Int) by omega]
 refine iq (fun (i : Nat) (l1 : List Int) => [(0, .slice p n cap), (1, .int .i64 aI), (2, .int .i64 bI), (3, .func (.func cf) fs.toArray cs.toArray), (8, .int .i64 (i : Int))]) (fun (i : Nat) (l1 : List Int) => Row I3 p n cap (l1) :: S :: F) (fun (i : Nat) (l1 : List Int) => a + 1 ≤ i ∧ (i ≤ b ∨ i = a + 1) ∧ dD.Rl key I3.d l l1 a b ∧ dD.Sd key I3.d l1 a i) (fun (i : Nat) (l1 : List Int) => b - i) (i2 (a + 1) (_) ?_ (dk ln) (sub (bp .nil) au)) ?_
 ·exact ⟨Nat.le_refl _, .inr rfl, dD.Rl.refl _ _ _, dD.Sd.small (Nat.le_refl _)⟩
 intro i l1
 rintro ⟨hi1, hi2, hR1, hS1⟩
 refine rL aH 8 rfl ?_
 refine aP rfl (fun h14 => ?_) (fun h14 => ?_)
 ·refine rC aH 11 rfl ?_
  refine iq (fun (j : Nat) (l2 : List Int) => [(0, .slice p n cap), (1, .int .i64 aI), (2, .int .i64 bI), (3, .func (.func cf) fs.toArray cs.toArray), (8, .int .i64 (i : Int)), (9, .int .i64 (j : Int))]) (fun (j : Nat) (l2 : List Int) => Row I3 p n cap (l2) :: S :: F) (fun (j : Nat) (l2 : List Int) => a ≤ j ∧ j ≤ i ∧ dD.Rl key I3.d l l2 a b ∧ dD.Ins key I3.d l2 a j i) (fun (j : Nat) (l2 : List Int) => j) (i2 (i) (_) ?_ (kR (dk ln)) (sub (bp .nil) au)) ?_
  ·exact ⟨by omega, Nat.le_refl _, hR1, dD.Ins.start hS1⟩
  intro j l2
  rintro ⟨hj1, hj2, hR2, hI2⟩
  refine rL aH 2 rfl ?_
  have hpd2 := hR2.pd (Pd := Pd) hbn hpd
  have hlen2 := hR2.len
  by_cases h20 : aI < (j : Int)
  ·refine wN [pz 0 [] [9], pz 0 [] [1], pz 3 [0, 1] [], pz 7 [2] [], pz 15 [3] [3], pz 15 [3] [0], pz 15 [3] [9], pz 111 [5, 6, 3] [], pz 239 [7, 3] [], pz 15 [3] [0], pz 15 [3] [9], pz 1039 [10, 3] [], pz 3599 [9, 11, 3] [], pz 7695 [12, 3] [], pz 16383 [4, 8, 13, 3] [], pz 32767 [14, 3] [], pz 65535 [3, 15] []] [⟨fun y => Row I3 p n cap (l2), none, none, [7, 8, 12, 13]⟩, ⟨fun y => S, none, some 14, []⟩, ⟨fun y => S, some 14, none, []⟩] F V.mixed ?_
   iterate 2 refine nM ?_
   refine nV (fun y hA L => aU (bj rfl rfl) h20) ?_
   refine nM ?_
   refine bU _ (fun y => rfl) rfl rfl rfl (fun y hA L => e9 rfl (dp (aG rfl) ⟨rfl, rfl⟩)) (by intros; rfl) (by intro y y2 h; rfl) ?_
   refine bU _ (fun y => rfl) rfl rfl rfl (fun y hA L => e9 rfl (dp (aG rfl) ⟨rfl, rfl⟩)) (by intros; rfl) (by intro y y2 h; rfl) ?_
   refine bU _ (fun y => rfl) rfl rfl rfl (fun y hA L => e9 rfl (dp (aG rfl) ⟨rfl, rfl⟩)) (by intros; rfl) (by intro y y2 h; rfl) ?_
   refine jL _ _ (fun y => rfl) rfl (fun y => rfl) rfl (fun y FF hA => e9 rfl (dp (xI V.cU (own an)) ⟨rfl, rfl⟩)) (by intros; rfl) (by intro y y2 h; rfl) ?_
   refine jL _ _ (fun y => rfl) rfl (fun y => rfl) rfl (fun y FF hA => e9 rfl (dp (xL V.s3 (own an)) ⟨rfl, rfl⟩)) (by intros; rfl) (by intro y y2 h; rfl) ?_
   refine bU _ (fun y => rfl) rfl rfl rfl (fun y hA L => e9 rfl (dp (aG rfl) ⟨rfl, rfl⟩)) (by intros; rfl) (by intro y y2 h; rfl) ?_
   refine bU _ (fun y => rfl) rfl rfl rfl (fun y hA L => e9 rfl (dp (aG rfl) ⟨rfl, rfl⟩)) (by intros; rfl) (by intro y y2 h; rfl) ?_
   refine bU _ (fun y => rfl) rfl rfl rfl (fun y hA L => e9 rfl (dp (gp rfl rfl wI) ⟨rfl, rfl⟩)) (by intros; rfl) (by intro y y2 h; rfl) ?_
   refine jL _ _ (fun y => rfl) rfl (fun y => rfl) rfl (fun y FF hA => e9 rfl (dp (xI V.cU (own an)) ⟨rfl, rfl⟩)) (by intros; rfl) (by intro y y2 h; rfl) ?_
   refine jL _ _ (fun y => rfl) rfl (fun y => rfl) rfl (fun y FF hA => e9 rfl (dp (xL V.s3 (own an)) ⟨rfl, rfl⟩)) (by intros; rfl) (by intro y y2 h; rfl) ?_
   refine nE (fun y FF hA => e9 rfl (ld (fs := fs) (cs := cs) (Post := [S]) (hf (I3.g l2 (j : Int)) (I3.g l2 ((j : Int) - 1)) (gP (k := j) (by omega) (hpd2 _ (by omega))) (gP (k := j - 1) (by omega) (hpd2 _ (by omega)))) hb rfl rfl (aw .nil) (fun v G h => by rcases h with ⟨rfl, rfl⟩; exact ⟨rfl, .refl _⟩))) ?_
   refine bU _ (fun y => rfl) rfl rfl rfl (fun y hA L => e9 rfl (dp (bD rfl rfl) ⟨rfl, rfl⟩)) (by intros; rfl) (by intro y y2 h; rfl) ?_
   refine nV (fun y hA L => ju rfl rfl) ?_
   refine aX ?_
   intro y hA
   clear hA
   refine bu ?_
   refine cy _ (.cons (d := 0) rfl (.cons (d := 1) rfl (.cons (d := 2) rfl (.cons (d := 3) rfl (.cons (d := 8) rfl (.cons (d := 9) rfl (.cons (d := 34) rfl (.nil _)))))))) ?_
   refine bR (M := Row I3 p n cap (l2) :: S :: F) (fun _ _ h => h) ?_
   refine aP rfl (fun h34 => ?_) (fun h34 => ?_)
   ·refine rC aH 4 rfl ?_
    refine wN [pz 0 [] [0], pz 0 [] [9], pz 0 [] [0], pz 0 [] [9], pz 8 [3] [], pz 0 [] [0], pz 0 [] [9], pz 64 [6] [], pz 224 [5, 7] [], pz 480 [8] [], pz 0 [] [0], pz 0 [] [9], pz 3072 [10, 11] [], pz 7168 [12] [], pz 16355 [0, 1] [], pz 32739 [14, 9] [], pz 65535 [2, 4] [], pz 131071 [16, 13] []] [⟨fun y => Row I3 p n cap (l2), none, some 15, [8, 9, 12, 13, 14]⟩, ⟨fun y => S, none, none, []⟩, ⟨fun y => Row I3 p n cap ((l2).set (j : Int).toNat ((I3).g (l2) ((j : Int) - 1))), some 15, some 17, [16]⟩, ⟨fun y => Row I3 p n cap (((l2).set (j : Int).toNat ((I3).g (l2) ((j : Int) - 1))).set ((j : Int) - 1).toNat ((I3).g (l2) (j : Int))), some 17, none, []⟩] F V.mixed ?_
    iterate 4 refine nM ?_
    refine nV (fun y hA L => gp rfl rfl wI) ?_
    iterate 2 refine nM ?_
    refine nV (fun y hA L => gp rfl rfl wI) ?_
    refine nR (fun y FF hA => xI V.cU (own an)) ?_
    refine nR (fun y FF hA => xL V.s3 (own an)) ?_
    iterate 2 refine nM ?_
    refine nR (fun y FF hA => xI V.cU (own an)) ?_
    refine nR (fun y FF hA => xL V.s3 (own an)) ?_
    refine nR (fun y FF hA => xI V.cU (own an)) ?_
    refine nE (fun y FF hA => dp (ir (c := (I3)) (_) V.s3 rfl rfl rfl (by exact cZ) (by omega) (by omega) rfl rfl) ⟨rfl, .refl _⟩) ?_
    refine nR (fun y FF hA => xI V.cU (own an)) ?_
    refine nE (fun y FF hA => dp (ir (c := (I3)) (_) V.s3 rfl rfl rfl (by exact cZ) (by omega) (by omega) rfl rfl) ⟨rfl, .refl _⟩) ?_
    refine aX ?_
    intro y hA
    clear hA
    show lI _ _ _ _ (S :: Row I3 p n cap (((l2).set (j : Int).toNat ((I3).g (l2) ((j : Int) - 1))).set ((j : Int) - 1).toNat ((I3).g (l2) (j : Int))) :: F)
    refine kA ?_
    refine bu ?_
    refine bo ?_
    refine oV (aG rfl) ?_
    refine oV (gp rfl rfl wI) ?_
    refine oV (ed rfl) ?_
    refine cH ?_
    have hlt := kf.1 h34
    rw [gE j (by omega), gE (j - 1) (by omega)] at hlt
    have e1 : ((j : Int) - 1).toNat = j - 1 := by omega
    have e0 : (j : Int).toNat = j := by omega
    simp only [Ec.g, e1, e0]
    rw [show (j : Int) - 1 = ((j - 1 : Nat) : Int) by omega]
    exact j2 (j - 1) _ ⟨⟨by omega, by omega, hR2.trans (dD.Rl.Fk (by omega) (by omega) (by omega) hlt), hI2.step (by omega) hj2 (by omega) hlt⟩, by omega⟩ (kR (dk ln)) (sub (.cons aE (aw .nil)) au)
   ·refine fQ aH 11 rfl (by omega) ?_
    exact j2 (i + 1) _ ⟨⟨by omega, by omega, hR2, hI2.fin hj1 (.inr (by have h := Int.not_lt.1 (fun h => h34 (kf.2 h)); rw [gE (j - 1) (by omega), gE j (by omega)] at h; exact h))⟩, by omega⟩ (dk ln) (sub (bp .nil) au)
  ·refine wN [pz 0 [] [9], pz 0 [] [1], pz 3 [0, 1] [], pz 7 [2] [], pz 15 [3] [3], pz 15 [3] [0], pz 15 [3] [9], pz 111 [5, 6, 3] [], pz 239 [7, 3] [], pz 15 [3] [0], pz 15 [3] [9], pz 1039 [10, 3] [], pz 3599 [9, 11, 3] [], pz 7695 [12, 3] [], pz 16383 [4, 8, 13, 3] [], pz 32767 [14, 3] [], pz 65535 [3, 15] []] [⟨fun y => Row I3 p n cap (l2), none, none, []⟩, ⟨fun y => S, none, none, []⟩] F V.mixed ?_
   iterate 2 refine nM ?_
   refine nV (fun y hA L => aA (bj rfl rfl) h20) ?_
   refine nM ?_
   refine bU _ (fun y => rfl) rfl rfl rfl (fun y hA L => eZ rfl rfl ⟨rfl, rfl⟩) (by intros; rfl) (by intro y y2 h; rfl) ?_
   refine bU _ (fun y => rfl) rfl rfl rfl (fun y hA L => eZ rfl rfl ⟨rfl, rfl⟩) (by intros; rfl) (by intro y y2 h; rfl) ?_
   refine bU _ (fun y => rfl) rfl rfl rfl (fun y hA L => eZ rfl rfl ⟨rfl, rfl⟩) (by intros; rfl) (by intro y y2 h; rfl) ?_
   refine bU _ (fun y => rfl) rfl rfl rfl (fun y hA L => eZ rfl rfl ⟨rfl, rfl⟩) (by intros; rfl) (by intro y y2 h; rfl) ?_
   refine bU _ (fun y => rfl) rfl rfl rfl (fun y hA L => eZ rfl rfl ⟨rfl, rfl⟩) (by intros; rfl) (by intro y y2 h; rfl) ?_
   refine bU _ (fun y => rfl) rfl rfl rfl (fun y hA L => eZ rfl rfl ⟨rfl, rfl⟩) (by intros; rfl) (by intro y y2 h; rfl) ?_
   refine bU _ (fun y => rfl) rfl rfl rfl (fun y hA L => eZ rfl rfl ⟨rfl, rfl⟩) (by intros; rfl) (by intro y y2 h; rfl) ?_
   refine bU _ (fun y => rfl) rfl rfl rfl (fun y hA L => eZ rfl rfl ⟨rfl, rfl⟩) (by intros; rfl) (by intro y y2 h; rfl) ?_
   refine bU _ (fun y => rfl) rfl rfl rfl (fun y hA L => eZ rfl rfl ⟨rfl, rfl⟩) (by intros; rfl) (by intro y y2 h; rfl) ?_
   refine bU _ (fun y => rfl) rfl rfl rfl (fun y hA L => eZ rfl rfl ⟨rfl, rfl⟩) (by intros; rfl) (by intro y y2 h; rfl) ?_
   refine bU _ (fun y => rfl) rfl rfl rfl (fun y hA L => eZ rfl rfl ⟨rfl, rfl⟩) (by intros; rfl) (by intro y y2 h; rfl) ?_
   refine bU _ (fun y => rfl) rfl rfl rfl (fun y hA L => eZ rfl rfl ⟨rfl, rfl⟩) (by intros; rfl) (by intro y y2 h; rfl) ?_
   refine nV (fun y hA L => uN rfl rfl) ?_
   refine aX ?_
   intro y hA
   clear hA
   refine bu ?_
   refine cy _ (.cons (d := 0) rfl (.cons (d := 1) rfl (.cons (d := 2) rfl (.cons (d := 3) rfl (.cons (d := 8) rfl (.cons (d := 9) rfl (.cons (d := 34) rfl (.nil _)))))))) ?_
   refine bR (M := Row I3 p n cap (l2) :: S :: F) (fun _ _ h => h) ?_
   refine fQ aH 12 rfl (by omega) ?_
   exact j2 (i + 1) _ ⟨⟨by omega, by omega, hR2, hI2.fin hj1 (.inl (by omega))⟩, by omega⟩ (dk ln) (sub (bp .nil) au)
 ·refine rC aH 4 rfl ?_
  exact iV fK ⟨rfl, l1, hR1, hS1.sub (Nat.le_refl _) (by omega), rfl⟩ (sub (bp .nil) au)
set_option maxHeartbeats 16000000 in
theorem CB (p : Option Addr) (n cap : Nat) (cf : Nat) (fs cs : List Value) (S : ab) (key : Int → Int) (Pd : Int → Prop) (hb : aJ Tryz.prog cf = true) (hf : ∀ x y, Pd x → Pd y → aK Tryz.prog cf (fs ++ [.int .i64 x, .int .i64 y] ++ cs) [S] (aR fun v G => v = .int .i64 (mv (key x) (key y)) ∧ G = [S])) (l : List Int) (a m b : Nat) (ham : a < m) (hmb : m < b) (hbn : b ≤ n) (hn2 : n ≤ 1000000) (hpd : ∀ i, i < n → Pd (l.getD i I3.d)) (h1 : dD.Sd key I3.d l a m) (h2 : dD.Sd key I3.d l m b) (ih : ∀ (l : List Int) (a2 m2 b2 : Nat), b2 - a2 < b - a → a2 < m2 → m2 < b2 → b2 ≤ n → (∀ i, i < n → Pd (l.getD i I3.d)) → dD.Sd key I3.d l a2 m2 → dD.Sd key I3.d l m2 b2 → aK Tryz.prog 246 [.slice p n cap, .int .i64 (a2 : Int), .int .i64 (m2 : Int), .int .i64 (b2 : Int), .func (.func cf) fs.toArray cs.toArray] [Row I3 p n cap (l), S] (aR fun v G => v = .tuple #[] ∧ ∃ l2, dD.Rl key I3.d l l2 a2 b2 ∧ dD.Sd key I3.d l2 a2 b2 ∧ G = [Row I3 p n cap (l2), S])) : aK Tryz.prog 246 [.slice p n cap, .int .i64 (a : Int), .int .i64 (m : Int), .int .i64 (b : Int), .func (.func cf) fs.toArray cs.toArray] [Row I3 p n cap (l), S] (aR fun v G => v = .tuple #[] ∧ ∃ l2, dD.Rl key I3.d l l2 a b ∧ dD.Sd key I3.d l2 a b ∧ G = [Row I3 p n cap (l2), S]) := by
 refine ax [(0, _), (1, _), (2, _), (3, _), (4, _)] Tryz.func246 rfl Tryz.ntmps246 rfl rfl ?_
 intro w0 F
 refine Fa (own an) (fun hlen => ?_)
 refine Ca aH 9 rfl (by omega) ?_
 refine aP rfl (fun h28 => ?_) (fun h28 => ?_)
 ·refine rC aH 14 rfl ?_
  refine iq (fun (i : Nat) (j : Nat) => [(0, .slice p n cap), (1, .int .i64 (a : Int)), (4, .func (.func cf) fs.toArray cs.toArray), (10, .int .i64 (i : Int)), (11, .int .i64 (j : Int))]) (fun (i : Nat) (j : Nat) => Row I3 p n cap (l) :: S :: F) (fun (i : Nat) (j : Nat) => m ≤ i ∧ i ≤ j ∧ j ≤ b ∧ (∀ x, m ≤ x → x < i → key (l.getD x I3.d) < key (l.getD a I3.d)) ∧ (∀ x, j ≤ x → x < b → key (l.getD a I3.d) ≤ key (l.getD x I3.d))) (fun (i : Nat) (j : Nat) => j - i) (i2 (m) (b) ?_ (dk ln) (sub (bp .nil) au)) ?_
  ·exact ⟨Nat.le_refl _, by omega, Nat.le_refl _, fun x x1 x2 => by omega, fun x x1 x2 => by omega⟩
  intro i j
  rintro ⟨hi1, hij, hj1, hlo, hhi⟩
  refine rL aH 8 rfl ?_
  refine aP rfl (fun h33 => ?_) (fun h33 => ?_)
  ·refine fQ aH 8 rfl (by omega) ?_
   refine oV (bE V.u3 Tryz.underlying52 rfl (sG (by omega) (by omega))) ?_
   refine oV (eu rfl rfl (by decide) (zL (by omega))) ?_
   refine oV (bE V.Gi Tryz.underlying3 rfl wI) ?_
   refine oV (ed rfl) ?_
   obtain ⟨h, hhh⟩ : ∃ h : Nat, h = (i + j) / 2 := ⟨_, rfl⟩
   rw [show ((i : Int) + (j : Int)) / 2 = ((h : Nat) : Int) by omega]
   refine rO aH 3 rfl ?_
   refine wN [pz 0 [] [4], pz 0 [] [0], pz 0 [] [12], pz 6 [1, 2] [], pz 14 [3] [], pz 0 [] [0], pz 0 [] [1], pz 96 [5, 6] [], pz 224 [7] [], pz 511 [0, 4, 8] [], pz 1023 [9] []] [⟨fun y => Row I3 p n cap (l), none, none, [3, 4, 7, 8]⟩, ⟨fun y => S, none, some 9, []⟩, ⟨fun y => S, some 9, none, []⟩] F V.mixed ?_
   iterate 3 refine nM ?_
   refine nR (fun y FF hA => xI V.cU (own an)) ?_
   refine nR (fun y FF hA => xL V.s3 (own an)) ?_
   iterate 2 refine nM ?_
   refine nR (fun y FF hA => xI V.cU (own an)) ?_
   refine nR (fun y FF hA => xL V.s3 (own an)) ?_
   refine nE (fun y FF hA => ld (fs := fs) (cs := cs) (Post := [S]) (hf (I3.g l (h : Int)) (I3.g l (a : Int)) (gP (k := h) (by omega) (hpd _ (by omega))) (gP (k := a) (by omega) (hpd _ (by omega)))) hb rfl rfl (aw .nil) (fun v G h => by rcases h with ⟨rfl, rfl⟩; exact ⟨rfl, .refl _⟩)) ?_
   refine nV (fun y hA L => bD rfl rfl) ?_
   refine aX ?_
   intro y hA
   clear hA
   refine bu ?_
   refine cy _ (.cons (d := 0) rfl (.cons (d := 1) rfl (.cons (d := 4) rfl (.cons (d := 10) rfl (.cons (d := 11) rfl (.cons (d := 12) rfl (.cons (d := 50) rfl (.nil _)))))))) ?_
   refine bR (M := Row I3 p n cap (l) :: S :: F) (fun _ _ h => h) ?_
   refine aP rfl (fun h50 => ?_) (fun h50 => ?_)
   ·refine fQ aH 6 rfl (by omega) ?_
    exact j2 (h + 1) j ⟨⟨by omega, by omega, by omega, dD.M7 h2 (by omega) (by omega) (by have q := kf.1 h50; rw [gE (h) (by omega), gE (a) (by omega)] at q; exact q), hhi⟩, by omega⟩ (dk ln) (sub (bp .nil) au)
   ·refine rC aH 5 rfl ?_
    exact j2 i h ⟨⟨by omega, by omega, by omega, hlo, dD.NC h2 (by omega) (by omega) (by have q := Int.not_lt.1 (fun z => h50 (kf.2 z)); rw [gE (a) (by omega), gE (h) (by omega)] at q; exact q)⟩, by omega⟩ (dk ln) (sub (bp .nil) au)
  ·refine rC aH 7 rfl ?_
   have hij : i = j := by omega
   subst hij
   have hma : m = a + 1 := by omega
   subst hma
   refine rC aH 6 rfl ?_
   refine iq (fun (k : Nat) (l2 : List Int) => [(0, .slice p n cap), (10, .int .i64 (i : Int)), (13, .int .i64 (k : Int))]) (fun (k : Nat) (l2 : List Int) => Row I3 p n cap (l2) :: S :: F) (fun (k : Nat) (l2 : List Int) => a ≤ k ∧ k ≤ i - 1 ∧ dD.Mv key I3.d l l2 a b k) (fun (k : Nat) (l2 : List Int) => i - k) (i2 (a) (l) ?_ (jm ln) (sub (bp .nil) au)) ?_
   ·exact ⟨Nat.le_refl _, by omega, dD.Mv.start _ _ _⟩
   intro k l2
   rintro ⟨hk1, hk2, hMv⟩
   refine On aH 9 rfl (by omega) ?_
   refine aP rfl (fun h58 => ?_) (fun h58 => ?_)
   ·refine rC aH 4 rfl ?_
    refine wN [pz 0 [] [0], pz 0 [] [13], pz 0 [] [0], pz 0 [] [13], pz 8 [3] [], pz 0 [] [0], pz 0 [] [13], pz 64 [6] [], pz 224 [5, 7] [], pz 480 [8] [], pz 0 [] [0], pz 0 [] [13], pz 3072 [10, 11] [], pz 7168 [12] [], pz 16355 [0, 1] [], pz 32739 [14, 9] [], pz 65535 [2, 4] [], pz 131071 [16, 13] []] [⟨fun y => Row I3 p n cap (l2), none, some 15, [8, 9, 12, 13, 14]⟩, ⟨fun y => S, none, none, []⟩, ⟨fun y => Row I3 p n cap ((l2).set (k : Int).toNat ((I3).g (l2) ((k : Int) + 1))), some 15, some 17, [16]⟩, ⟨fun y => Row I3 p n cap (((l2).set (k : Int).toNat ((I3).g (l2) ((k : Int) + 1))).set ((k : Int) + 1).toNat ((I3).g (l2) (k : Int))), some 17, none, []⟩] F V.mixed ?_
    iterate 4 refine nM ?_
    refine nV (fun y hA L => dz rfl rfl wI) ?_
    iterate 2 refine nM ?_
    refine nV (fun y hA L => dz rfl rfl wI) ?_
    refine nR (fun y FF hA => xI V.cU (own an)) ?_
    refine nR (fun y FF hA => xL V.s3 (own an)) ?_
    iterate 2 refine nM ?_
    refine nR (fun y FF hA => xI V.cU (own an)) ?_
    refine nR (fun y FF hA => xL V.s3 (own an)) ?_
    refine nR (fun y FF hA => xI V.cU (own an)) ?_
    refine nE (fun y FF hA => dp (ir (c := (I3)) (_) V.s3 rfl rfl rfl (by exact cZ) (by omega) (by omega) rfl rfl) ⟨rfl, .refl _⟩) ?_
    refine nR (fun y FF hA => xI V.cU (own an)) ?_
    refine nE (fun y FF hA => dp (ir (c := (I3)) (_) V.s3 rfl rfl rfl (by exact cZ) (by omega) (by omega) rfl rfl) ⟨rfl, .refl _⟩) ?_
    refine aX ?_
    intro y hA
    clear hA
    show lI _ _ _ _ (S :: Row I3 p n cap (((l2).set (k : Int).toNat ((I3).g (l2) ((k : Int) + 1))).set ((k : Int) + 1).toNat ((I3).g (l2) (k : Int))) :: F)
    refine kA ?_
    refine bu ?_
    refine bo ?_
    refine oV (aG rfl) ?_
    refine oV (dz rfl rfl wI) ?_
    refine oV (ed rfl) ?_
    refine cH ?_
    have hlen2 := hMv.rl.len
    have e1 : ((k : Int) + 1).toNat = k + 1 := by omega
    have e0 : (k : Int).toNat = k := by omega
    simp only [Ec.g, e1, e0]
    exact j2 (k + 1) _ ⟨⟨by omega, by omega, hMv.step (by omega) (by omega) (by omega) (hlo _ (by omega) (by omega))⟩, by omega⟩ (jm ln) (sub (.cons aE (aw .nil)) au)
   ·refine rC aH 7 rfl ?_
    have hke : k = i - 1 := by omega
    subst hke
    exact aj fK ⟨rfl, l2, hMv.rl, hMv.fin (by omega) (by omega) h2 hlo hhi, rfl⟩ (sub (bp .nil) au)
 ·refine fQ aH 11 rfl (by omega) ?_
  refine aP rfl (fun h80 => ?_) (fun h80 => ?_)
  ·refine rC aH 14 rfl ?_
   refine iq (fun (i : Nat) (j : Nat) => [(0, .slice p n cap), (2, .int .i64 (m : Int)), (4, .func (.func cf) fs.toArray cs.toArray), (14, .int .i64 (i : Int)), (15, .int .i64 (j : Int))]) (fun (i : Nat) (j : Nat) => Row I3 p n cap (l) :: S :: F) (fun (i : Nat) (j : Nat) => a ≤ i ∧ i ≤ j ∧ j ≤ m ∧ (∀ x, a ≤ x → x < i → key (l.getD x I3.d) ≤ key (l.getD m I3.d)) ∧ (∀ x, j ≤ x → x < m → key (l.getD m I3.d) < key (l.getD x I3.d))) (fun (i : Nat) (j : Nat) => j - i) (i2 (a) (m) ?_ (dk ln) (sub (bp .nil) au)) ?_
   ·exact ⟨Nat.le_refl _, by omega, Nat.le_refl _, fun x x1 x2 => by omega, fun x x1 x2 => by omega⟩
   intro i j
   rintro ⟨hi1, hij, hj1, hlo, hhi⟩
   refine rL aH 8 rfl ?_
   refine aP rfl (fun h85 => ?_) (fun h85 => ?_)
   ·refine fQ aH 8 rfl (by omega) ?_
    refine oV (bE V.u3 Tryz.underlying52 rfl (sG (by omega) (by omega))) ?_
    refine oV (eu rfl rfl (by decide) (zL (by omega))) ?_
    refine oV (bE V.Gi Tryz.underlying3 rfl wI) ?_
    refine oV (ed rfl) ?_
    obtain ⟨h, hhh⟩ : ∃ h : Nat, h = (i + j) / 2 := ⟨_, rfl⟩
    rw [show ((i : Int) + (j : Int)) / 2 = ((h : Nat) : Int) by omega]
    refine rO aH 3 rfl ?_
    refine wN [pz 0 [] [4], pz 0 [] [0], pz 0 [] [2], pz 6 [1, 2] [], pz 14 [3] [], pz 0 [] [0], pz 0 [] [16], pz 96 [5, 6] [], pz 224 [7] [], pz 511 [0, 4, 8] [], pz 1023 [9] [], pz 2047 [10] []] [⟨fun y => Row I3 p n cap (l), none, none, [3, 4, 7, 8]⟩, ⟨fun y => S, none, some 9, []⟩, ⟨fun y => S, some 9, none, []⟩] F V.mixed ?_
    iterate 3 refine nM ?_
    refine nR (fun y FF hA => xI V.cU (own an)) ?_
    refine nR (fun y FF hA => xL V.s3 (own an)) ?_
    iterate 2 refine nM ?_
    refine nR (fun y FF hA => xI V.cU (own an)) ?_
    refine nR (fun y FF hA => xL V.s3 (own an)) ?_
    refine nE (fun y FF hA => ld (fs := fs) (cs := cs) (Post := [S]) (hf (I3.g l (m : Int)) (I3.g l (h : Int)) (gP (k := m) (by omega) (hpd _ (by omega))) (gP (k := h) (by omega) (hpd _ (by omega)))) hb rfl rfl (aw .nil) (fun v G h => by rcases h with ⟨rfl, rfl⟩; exact ⟨rfl, .refl _⟩)) ?_
    refine nV (fun y hA L => bD rfl rfl) ?_
    refine nV (fun y hA L => AE rfl) ?_
    refine aX ?_
    intro y hA
    clear hA
    refine bu ?_
    refine cy _ (.cons (d := 0) rfl (.cons (d := 2) rfl (.cons (d := 4) rfl (.cons (d := 14) rfl (.cons (d := 15) rfl (.cons (d := 16) rfl (.cons (d := 103) rfl (.nil _)))))))) ?_
    refine bR (M := Row I3 p n cap (l) :: S :: F) (fun _ _ h => h) ?_
    refine aP rfl (fun h103 => ?_) (fun h103 => ?_)
    ·refine fQ aH 6 rfl (by omega) ?_
     exact j2 (h + 1) j ⟨⟨by omega, by omega, by omega, dD.NV h1 (by omega) (by omega) (by have q := Int.not_lt.1 (fun z => h103 (kf.2 z)); rw [gE (h) (by omega), gE (m) (by omega)] at q; exact q), hhi⟩, by omega⟩ (dk ln) (sub (bp .nil) au)
    ·refine rC aH 5 rfl ?_
     exact j2 i h ⟨⟨by omega, by omega, by omega, hlo, dD.N7 h1 (by omega) (by omega) (by have q := kf.1 (Classical.not_not.1 h103); rw [gE (m) (by omega), gE (h) (by omega)] at q; exact q)⟩, by omega⟩ (dk ln) (sub (bp .nil) au)
   ·refine rC aH 7 rfl ?_
    have hij : i = j := by omega
    subst hij
    have hbm : b = m + 1 := by omega
    refine rC aH 6 rfl ?_
    refine iq (fun (k : Nat) (l2 : List Int) => [(0, .slice p n cap), (14, .int .i64 (i : Int)), (17, .int .i64 (k : Int))]) (fun (k : Nat) (l2 : List Int) => Row I3 p n cap (l2) :: S :: F) (fun (k : Nat) (l2 : List Int) => i ≤ k ∧ k ≤ m ∧ dD.Mw key I3.d l l2 a b m k) (fun (k : Nat) (l2 : List Int) => k) (i2 (m) (l) ?_ (jm ln) (sub (bp .nil) au)) ?_
    ·exact ⟨by omega, Nat.le_refl _, dD.Mw.start _ _ _ _⟩
    intro k l2
    rintro ⟨hk1, hk2, hMw⟩
    refine rL aH 8 rfl ?_
    refine aP rfl (fun h110 => ?_) (fun h110 => ?_)
    ·refine rC aH 4 rfl ?_
     refine wN [pz 0 [] [0], pz 0 [] [17], pz 0 [] [0], pz 0 [] [17], pz 8 [3] [], pz 0 [] [0], pz 0 [] [17], pz 64 [6] [], pz 224 [5, 7] [], pz 480 [8] [], pz 0 [] [0], pz 0 [] [17], pz 3072 [10, 11] [], pz 7168 [12] [], pz 16355 [0, 1] [], pz 32739 [14, 9] [], pz 65535 [2, 4] [], pz 131071 [16, 13] []] [⟨fun y => Row I3 p n cap (l2), none, some 15, [8, 9, 12, 13, 14]⟩, ⟨fun y => S, none, none, []⟩, ⟨fun y => Row I3 p n cap ((l2).set (k : Int).toNat ((I3).g (l2) ((k : Int) - 1))), some 15, some 17, [16]⟩, ⟨fun y => Row I3 p n cap (((l2).set (k : Int).toNat ((I3).g (l2) ((k : Int) - 1))).set ((k : Int) - 1).toNat ((I3).g (l2) (k : Int))), some 17, none, []⟩] F V.mixed ?_
     iterate 4 refine nM ?_
     refine nV (fun y hA L => gp rfl rfl wI) ?_
     iterate 2 refine nM ?_
     refine nV (fun y hA L => gp rfl rfl wI) ?_
     refine nR (fun y FF hA => xI V.cU (own an)) ?_
     refine nR (fun y FF hA => xL V.s3 (own an)) ?_
     iterate 2 refine nM ?_
     refine nR (fun y FF hA => xI V.cU (own an)) ?_
     refine nR (fun y FF hA => xL V.s3 (own an)) ?_
     refine nR (fun y FF hA => xI V.cU (own an)) ?_
     refine nE (fun y FF hA => dp (ir (c := (I3)) (_) V.s3 rfl rfl rfl (by exact cZ) (by omega) (by omega) rfl rfl) ⟨rfl, .refl _⟩) ?_
     refine nR (fun y FF hA => xI V.cU (own an)) ?_
     refine nE (fun y FF hA => dp (ir (c := (I3)) (_) V.s3 rfl rfl rfl (by exact cZ) (by omega) (by omega) rfl rfl) ⟨rfl, .refl _⟩) ?_
     refine aX ?_
     intro y hA
     clear hA
     show lI _ _ _ _ (S :: Row I3 p n cap (((l2).set (k : Int).toNat ((I3).g (l2) ((k : Int) - 1))).set ((k : Int) - 1).toNat ((I3).g (l2) (k : Int))) :: F)
     refine kA ?_
     refine bu ?_
     refine bo ?_
     refine oV (aG rfl) ?_
     refine oV (gp rfl rfl wI) ?_
     refine oV (ed rfl) ?_
     refine cH ?_
     have hlen2 := hMw.rl.len
     have e1 : ((k : Int) - 1).toNat = k - 1 := by omega
     have e0 : (k : Int).toNat = k := by omega
     simp only [Ec.g, e1, e0]
     rw [show (k : Int) - 1 = ((k - 1 : Nat) : Int) by omega]
     exact j2 (k - 1) _ ⟨⟨by omega, by omega, hMw.step (by omega) (by omega) (by omega) (by omega) (hhi _ (by omega) (by omega))⟩, by omega⟩ (jm ln) (sub (.cons aE (aw .nil)) au)
    ·refine rC aH 7 rfl ?_
     have hke : k = i := by omega
     subst hke
     exact aj fK ⟨rfl, l2, hMw.rl, hMw.fin (by omega) (by omega) hbm h1 hlo hhi, rfl⟩ (sub (bp .nil) au)
  ·refine fQ aH 7 rfl (by omega) ?_
   refine oV (bE V.u3 Tryz.underlying52 rfl (sG (by omega) (by omega))) ?_
   refine oV (eu rfl rfl (by decide) (zL (by omega))) ?_
   refine oV (bE V.Gi Tryz.underlying3 rfl wI) ?_
   refine oV (ed rfl) ?_
   obtain ⟨bA, hmidmid⟩ : ∃ bA : Nat, bA = (a + b) / 2 := ⟨_, rfl⟩
   rw [show ((a : Int) + (b : Int)) / 2 = ((bA : Nat) : Int) by omega]
   refine cV aH 16 rfl (by omega) ?_
   refine yS (fun (st0 : Nat) (r0 : Nat) => [(0, .slice p n cap), (1, .int .i64 (a : Int)), (2, .int .i64 (m : Int)), (3, .int .i64 (b : Int)), (4, .func (.func cf) fs.toArray cs.toArray), (18, .int .i64 (bA : Int)), (19, .int .i64 ((bA : Int) + (m : Int))), (20, .int .i64 (st0 : Int)), (21, .int .i64 (r0 : Int))]) (fun (st0 : Nat) (r0 : Nat) => Row I3 p n cap (l) :: S :: F) (fun (st0 : Nat) (r0 : Nat) => st0 = (if bA < m then bA + m - b else a) ∧ r0 = (if bA < m then bA else m)) ?_ ?_
   ·refine rL aH 7 rfl ?_
    refine aP rfl (fun h140 => ?_) (fun h140 => ?_)
    ·refine fQ aH 12 rfl (by omega) ?_
     (rw [show (bA : Int) + (m : Int) - (b : Int) = ((bA + m - b : Nat) : Int) by omega]; exact j2 (bA + m - b) bA ⟨(if_pos (by omega)).symm, (if_pos (by omega)).symm⟩ (eN (dk ln)) (sub (bp .nil) au))
    ·refine rC aH 10 rfl ?_
     exact j2 a m ⟨(if_neg (by omega)).symm, (if_neg (by omega)).symm⟩ (eN (dk ln)) (sub (bp .nil) au)
   ·intro st0 r0
    rintro hst
    have hb0 : a ≤ st0 ∧ st0 ≤ r0 ∧ r0 ≤ m ∧ r0 ≤ bA ∧ bA + m ≤ st0 + b ∧ bA < b := by obtain ⟨e0, e1⟩ := hst; split at e0 <;> split at e1 <;> omega
    refine fQ aH 9 rfl (by omega) ?_
    refine iq (fun (s : Nat) (r : Nat) => [(0, .slice p n cap), (1, .int .i64 (a : Int)), (2, .int .i64 (m : Int)), (3, .int .i64 (b : Int)), (4, .func (.func cf) fs.toArray cs.toArray), (18, .int .i64 (bA : Int)), (19, .int .i64 ((bA : Int) + (m : Int))), (20, .int .i64 (s : Int)), (21, .int .i64 (r : Int)), (22, .int .i64 (((bA : Int) + (m : Int)) - 1))]) (fun (s : Nat) (r : Nat) => Row I3 p n cap (l) :: S :: F) (fun (s : Nat) (r : Nat) => st0 ≤ s ∧ s ≤ r ∧ r ≤ r0 ∧ (∀ x, st0 ≤ x → x < s → key (l.getD x I3.d) ≤ key (l.getD (bA + m - 1 - x) I3.d)) ∧ (∀ x, r ≤ x → x < r0 → key (l.getD (bA + m - 1 - x) I3.d) < key (l.getD x I3.d))) (fun (s : Nat) (r : Nat) => r - s) (i2 (st0) (r0) ?_ (dk (dk ln)) (sub (bp .nil) au)) ?_
    ·exact ⟨Nat.le_refl _, by omega, Nat.le_refl _, fun x x1 x2 => by omega, fun x x1 x2 => by omega⟩
    intro s r
    rintro ⟨hs1, hsr1, hr1, hy, hno⟩
    refine rL aH 8 rfl ?_
    refine aP rfl (fun h151 => ?_) (fun h151 => ?_)
    ·refine fQ aH 8 rfl (by omega) ?_
     refine oV (bE V.u3 Tryz.underlying52 rfl (sG (by omega) (by omega))) ?_
     refine oV (eu rfl rfl (by decide) (zL (by omega))) ?_
     refine oV (bE V.Gi Tryz.underlying3 rfl wI) ?_
     refine oV (ed rfl) ?_
     obtain ⟨h, hhh⟩ : ∃ h : Nat, h = (s + r) / 2 := ⟨_, rfl⟩
     rw [show ((s : Int) + (r : Int)) / 2 = ((h : Nat) : Int) by omega]
     refine rO aH 3 rfl ?_
     refine wN [pz 0 [] [4], pz 0 [] [0], pz 0 [] [22], pz 0 [] [23], pz 12 [2, 3] [], pz 30 [1, 4] [], pz 62 [5] [], pz 0 [] [0], pz 0 [] [23], pz 384 [7, 8] [], pz 896 [9] [], pz 2047 [0, 6, 10] [], pz 4095 [11] [], pz 8191 [12] []] [⟨fun y => Row I3 p n cap (l), none, none, [5, 6, 9, 10]⟩, ⟨fun y => S, none, some 11, []⟩, ⟨fun y => S, some 11, none, []⟩] F V.mixed ?_
     iterate 4 refine nM ?_
     refine nV (fun y hA L => gp rfl rfl wI) ?_
     refine nR (fun y FF hA => xI V.cU (own an)) ?_
     refine nR (fun y FF hA => xL V.s3 (own an)) ?_
     iterate 2 refine nM ?_
     refine nR (fun y FF hA => xI V.cU (own an)) ?_
     refine nR (fun y FF hA => xL V.s3 (own an)) ?_
     refine nE (fun y FF hA => ld (fs := fs) (cs := cs) (Post := [S]) (hf (I3.g l ((((bA : Int) + (m : Int)) - 1) - (h : Int))) (I3.g l (h : Int)) (gP (k := bA + m - 1 - h) (by omega) (hpd _ (by omega))) (gP (k := h) (by omega) (hpd _ (by omega)))) hb rfl rfl (aw .nil) (fun v G h => by rcases h with ⟨rfl, rfl⟩; exact ⟨rfl, .refl _⟩)) ?_
     refine nV (fun y hA L => bD rfl rfl) ?_
     refine nV (fun y hA L => AE rfl) ?_
     refine aX ?_
     intro y hA
     clear hA
     refine bu ?_
     refine cy _ (.cons (d := 0) rfl (.cons (d := 1) rfl (.cons (d := 2) rfl (.cons (d := 3) rfl (.cons (d := 4) rfl (.cons (d := 18) rfl (.cons (d := 19) rfl (.cons (d := 20) rfl (.cons (d := 21) rfl (.cons (d := 22) rfl (.cons (d := 23) rfl (.cons (d := 171) rfl (.nil _))))))))))))) ?_
     refine bR (M := Row I3 p n cap (l) :: S :: F) (fun _ _ h => h) ?_
     refine aP rfl (fun h171 => ?_) (fun h171 => ?_)
     ·refine fQ aH 6 rfl (by omega) ?_
      exact j2 (h + 1) r ⟨⟨by omega, by omega, by omega, dD.LM ham hmb hmidmid h1 h2 hst.1 hst.2 (by omega) (by omega) (by have q := Int.not_lt.1 (fun z => h171 (kf.2 z)); rw [gE (h) (by omega), gE (bA + m - 1 - h) (by omega)] at q; exact q), hno⟩, by omega⟩ (dk (dk ln)) (sub (bp .nil) au)
     ·refine rC aH 5 rfl ?_
      exact j2 s h ⟨⟨by omega, by omega, by omega, hy, dD.KI ham hmb hmidmid h1 h2 hst.1 hst.2 (by omega) (by omega) (by have q := kf.1 (Classical.not_not.1 h171); rw [gE (bA + m - 1 - h) (by omega), gE (h) (by omega)] at q; exact q)⟩, by omega⟩ (dk (dk ln)) (sub (bp .nil) au)
    ·refine rC aH 6 rfl ?_
     have hsr : s = r := by omega
     subst hsr
     obtain ⟨q1, q2, q3, q4, q5, q6, hlt, hc⟩ := dD.DY (by omega) ham hmb hmidmid h1 h2 (by rw [← hst.1]; omega) (by rw [← hst.2]; omega) (fun hh => hy (s - 1) (by rw [← hst.1] at hh; omega) (by rw [← hst.1] at hh; omega)) (fun hh => hno s (Nat.le_refl _) (by rw [← hst.2] at hh; omega))
     refine fQ aH 5 rfl (by omega) ?_
     obtain ⟨e, he⟩ : ∃ e : Nat, e = bA + m - s := ⟨_, rfl⟩
     rw [show (bA : Int) + (m : Int) - (s : Int) = ((e : Nat) : Int) by omega]
     refine rO aH 2 rfl ?_
     refine lU (fun (l1 : List Int) => [(0, .slice p n cap), (1, .int .i64 (a : Int)), (3, .int .i64 (b : Int)), (4, .func (.func cf) fs.toArray cs.toArray), (18, .int .i64 (bA : Int)), (20, .int .i64 (s : Int)), (24, .int .i64 (e : Int))]) (fun (l1 : List Int) => Row I3 p n cap (l1) :: S :: F) (fun (l1 : List Int) => dD.ni key I3.d l l1 a s bA e b) ?_ ?_
     ·refine rL aH 6 rfl ?_
      refine fD 181 rfl (fun h181 => ?_) (fun h181 => ?_)
      ·refine rO aH 6 rfl ?_
       refine aP rfl (fun h185 => ?_) (fun h185 => ?_)
       ·obtain ⟨Pp, X, Y, Z, hl, hP, hX, hY, hXm, hYm⟩ := dD.blocks (d := I3.d) l s m e (by omega) (by omega) (by omega)
        subst hl
        refine rC aH 6 rfl ?_
        refine ai (CU p n cap _ Pp X Y Z (s : Int) (m : Int) (e : Int) (by omega) (by omega) (by omega) (by omega) (by omega) (by simp only [List.length_append] at hlen; omega) hn2) V.OS  rfl (aw .nil) rfl ?_
        rintro _ _ ⟨rfl, rfl⟩
        refine cH ?_
        refine j1 (_) ?_ (kF (dk ln)) (sub (bp .nil) au)
        (subst he; exact dD.ni.Rh hP hX (by omega) h1 h2 ⟨q1, q2, q3, q4, q5, q6⟩ (hlt (by omega) (by omega)) hc hXm hYm)
       ·refine rC aH 1 rfl ?_
        refine j1 (_) ?_ (kF (dk ln)) (sub (bp .nil) au)
        (subst he; exact dD.ni.stay h1 h2 ⟨q1, q2, q3, q4, q5, q6⟩ hc (by omega))
      ·refine rO aH 8 rfl ?_
       refine j1 (_) ?_ (kF (dk ln)) (sub (bp .nil) au)
       (subst he; exact dD.ni.stay h1 h2 ⟨q1, q2, q3, q4, q5, q6⟩ hc (by omega))
     ·intro l1
      rintro hPt
      refine lU (fun (l2 : List Int) => [(0, .slice p n cap), (3, .int .i64 (b : Int)), (4, .func (.func cf) fs.toArray cs.toArray), (18, .int .i64 (bA : Int)), (24, .int .i64 (e : Int))]) (fun (l2 : List Int) => Row I3 p n cap (l2) :: S :: F) (fun (l2 : List Int) => dD.Rl key I3.d l1 l2 a bA ∧ dD.Sd key I3.d l2 a bA) ?_ ?_
      ·refine rL aH 6 rfl ?_
       refine fD 195 rfl (fun h195 => ?_) (fun h195 => ?_)
       ·refine rO aH 6 rfl ?_
        refine aP rfl (fun h199 => ?_) (fun h199 => ?_)
        ·refine rC aH 6 rfl ?_
         refine ai (ih l1 a s bA (by omega) (by omega) (by omega) (by omega) (hPt.rl.pd (by omega) hpd) hPt.s1 hPt.s2) V.Ac  rfl (bp .nil) rfl ?_
         rintro _ _ ⟨rfl, l2, hr2, hs2, rfl⟩
         refine cH ?_
         refine j1 (_) ?_ (dk ln) (sub (bp .nil) au)
         exact ⟨hr2, hs2⟩
        ·refine rC aH 1 rfl ?_
         refine j1 (_) ?_ (dk ln) (sub (bp .nil) au)
         exact ⟨dD.Rl.refl _ _ _, dD.Sd.join hPt.s1 hPt.s2 (fun i j i1 i2 j1 j2 => by omega)⟩
       ·refine rO aH 8 rfl ?_
        refine j1 (_) ?_ (dk ln) (sub (bp .nil) au)
        exact ⟨dD.Rl.refl _ _ _, dD.Sd.join hPt.s1 hPt.s2 (fun i j i1 i2 j1 j2 => by omega)⟩
      ·intro l2
       rintro ⟨hR2, hS2⟩
       refine rC aH 6 rfl ?_
       refine fD 209 rfl (fun h209 => ?_) (fun h209 => ?_)
       ·refine rO aH 6 rfl ?_
        refine aP rfl (fun h213 => ?_) (fun h213 => ?_)
        ·refine rC aH 6 rfl ?_
         refine ai (ih l2 bA e b (by omega) (by omega) (by omega) (by omega) (hR2.pd (by omega) (hPt.rl.pd (by omega) hpd)) (hPt.s3.congr (fun i i1 i2 => hR2.out i (by omega))) (hPt.s4.congr (fun i i1 i2 => hR2.out i (by omega)))) V.Ac  rfl (bp .nil) rfl ?_
         rintro _ _ ⟨rfl, l3, hr3, nD, rfl⟩
         refine cH ?_
         exact iV fK ⟨rfl, l3, hPt.rl.trans ((hR2.wide (Nat.le_refl _) (by omega)).trans (hr3.wide (by omega) (Nat.le_refl _))), dD.Sd.join (hS2.congr (fun i i1 i2 => hr3.out i (by omega))) nD (dD.xZ (dD.oD hPt.cr hR2) hr3), rfl⟩ (sub (bp .nil) au)
        ·refine rC aH 1 rfl ?_
         exact iV fK ⟨rfl, l2, hPt.rl.trans (hR2.wide (Nat.le_refl _) (by omega)), dD.Sd.join hS2 (dD.Sd.join (hPt.s3.congr (fun i i1 i2 => hR2.out i (by omega))) (hPt.s4.congr (fun i i1 i2 => hR2.out i (by omega))) (fun i j i1 i2 j1 j2 => by omega)) (dD.oD hPt.cr hR2), rfl⟩ (sub (bp .nil) au)
       ·refine rO aH 8 rfl ?_
        exact iV fK ⟨rfl, l2, hPt.rl.trans (hR2.wide (Nat.le_refl _) (by omega)), dD.Sd.join hS2 (dD.Sd.join (hPt.s3.congr (fun i i1 i2 => hR2.out i (by omega))) (hPt.s4.congr (fun i i1 i2 => hR2.out i (by omega))) (fun i j i1 i2 j1 j2 => by omega)) (dD.oD hPt.cr hR2), rfl⟩ (sub (bp .nil) au)
theorem sF (p : Option Addr) (n cap : Nat) (cf : Nat) (fs cs : List Value) (S : ab) (key : Int → Int) (Pd : Int → Prop) (hb : aJ Tryz.prog cf = true) (hf : ∀ x y, Pd x → Pd y → aK Tryz.prog cf (fs ++ [.int .i64 x, .int .i64 y] ++ cs) [S] (aR fun v G => v = .int .i64 (mv (key x) (key y)) ∧ G = [S])) (hn2 : n ≤ 1000000) : ∀ (k : Nat) (l : List Int) (a m b : Nat), b - a ≤ k → a < m → m < b → b ≤ n → (∀ i, i < n → Pd (l.getD i I3.d)) → dD.Sd key I3.d l a m → dD.Sd key I3.d l m b → aK Tryz.prog 246 [.slice p n cap, .int .i64 (a : Int), .int .i64 (m : Int), .int .i64 (b : Int), .func (.func cf) fs.toArray cs.toArray] [Row I3 p n cap (l), S] (aR fun v G => v = .tuple #[] ∧ ∃ l2, dD.Rl key I3.d l l2 a b ∧ dD.Sd key I3.d l2 a b ∧ G = [Row I3 p n cap (l2), S])
 | 0, l, a, m, b, hk, ham, hmb, hbn, hpd, h1, h2 => by omega
 | k + 1, l, a, m, b, hk, ham, hmb, hbn, hpd, h1, h2 => CB p n cap cf fs cs S key Pd hb hf l a m b ham hmb hbn hn2 hpd h1 h2 (fun l a2 m2 b2 hlt q1 q2 q3 q4 q5 q6 => sF p n cap cf fs cs S key Pd hb hf hn2 k l a2 m2 b2 (by omega) q1 q2 q3 q4 q5 q6)
set_option maxHeartbeats 8000000 in
theorem Bb (p : Option Addr) (n cap : Nat) (cf : Nat) (fs cs : List Value) (S : ab) (key : Int → Int) (Pd : Int → Prop) (hb : aJ Tryz.prog cf = true) (hf : ∀ x y, Pd x → Pd y → aK Tryz.prog cf (fs ++ [.int .i64 x, .int .i64 y] ++ cs) [S] (aR fun v G => v = .int .i64 (mv (key x) (key y)) ∧ G = [S])) (l : List Int) (hn2 : n ≤ 1000000) (hpd : ∀ i, i < n → Pd (l.getD i I3.d)) : aK Tryz.prog 229 [.slice p n cap, .int .i64 (n : Int), .func (.func cf) fs.toArray cs.toArray] [Row I3 p n cap (l), S] (aR fun v G => v = .tuple #[] ∧ ∃ l2, dD.Rl key I3.d l l2 0 n ∧ dD.Sd key I3.d l2 0 n ∧ G = [Row I3 p n cap (l2), S]) := by
 refine ax [(0, _), (1, _), (2, _)] Tryz.func229 rfl Tryz.ntmps229 rfl rfl ?_
 intro w0 F
 refine rT aH 14 rfl ?_
 refine iq (fun (A : Nat) (l1 : List Int) => [(0, .slice p n cap), (1, .int .i64 (n : Int)), (2, .func (.func cf) fs.toArray cs.toArray), (6, .int .i64 20), (7, .int .i64 (A : Int)), (8, .int .i64 ((20 + A : Nat) : Int))]) (fun (A : Nat) (l1 : List Int) => Row I3 p n cap (l1) :: S :: F) (fun (A : Nat) (l1 : List Int) => 20 ∣ A ∧ A ≤ n ∧ dD.Rl key I3.d l l1 0 n ∧ dD.Bd key I3.d l1 20 A) (fun (A : Nat) (l1 : List Int) => n - A) (i2 (0) (l) ?_ (kR (dk ln)) (sub (bp .nil) au)) ?_
 ·exact ⟨Nat.dvd_zero _, Nat.zero_le _, dD.Rl.refl _ _ _, dD.Bd.zero _ _ (by decide)⟩
 intro A l1
 rintro ⟨hA, hAn, hR1, hBd⟩
 refine rL aH 8 rfl ?_
 refine aP rfl (fun h13 => ?_) (fun h13 => ?_)
 ·refine rC aH 9 rfl ?_
  refine ai (qE p n cap cf fs cs S key Pd hb hf l1 _ _ A (20 + A) rfl rfl (by omega) (by omega) hn2 (hR1.pd (Nat.le_refl _) hpd)) V.Ml  rfl (bp .nil) rfl ?_
  rintro _ _ ⟨rfl, l3, hr3, nD, rfl⟩
  refine cV aH 15 rfl (by omega) ?_
  rw [show ((20 + A : Nat) : Int) + 20 = ((20 + (20 + A) : Nat) : Int) by omega]
  exact j2 (20 + A) _ ⟨⟨by omega, by omega, hR1.trans (hr3.wide (Nat.zero_le _) (by omega)), hBd.step hA hr3 nD⟩, by omega⟩ (kR (dk ln)) (sub (bp .nil) au)
 ·refine rC aH 11 rfl ?_
  refine ai (qE p n cap cf fs cs S key Pd hb hf l1 _ _ A n rfl rfl (by omega) (by omega) hn2 (hR1.pd (Nat.le_refl _) hpd)) V.Ml  rfl (bp .nil) rfl ?_
  rintro _ _ ⟨rfl, l3, hr3, nD, rfl⟩
  refine rO aH 3 rfl ?_
  refine iq (fun (bs : Nat) (l1 : List Int) => [(0, .slice p n cap), (1, .int .i64 (n : Int)), (2, .func (.func cf) fs.toArray cs.toArray), (6, .int .i64 (bs : Int))]) (fun (bs : Nat) (l1 : List Int) => Row I3 p n cap (l1) :: S :: F) (fun (bs : Nat) (l1 : List Int) => 0 < bs ∧ dD.Rl key I3.d l l1 0 n ∧ dD.Bk key I3.d l1 bs n) (fun (bs : Nat) (l1 : List Int) => n - bs) (i2 (20) (_) ?_ (eN ln) (sub (bp .nil) au)) ?_
  ·exact ⟨by decide, hR1.trans (hr3.wide (Nat.zero_le _) (Nat.le_refl _)), hBd.fin hA hAn (by omega) hr3 nD⟩
  intro bs l1
  rintro ⟨hbs, hR1, hBk⟩
  refine rL aH 8 rfl ?_
  refine aP rfl (fun h30 => ?_) (fun h30 => ?_)
  ·refine fQ aH 13 rfl (by omega) ?_
   refine iq (fun (A : Nat) (l2 : List Int) => [(0, .slice p n cap), (1, .int .i64 (n : Int)), (2, .func (.func cf) fs.toArray cs.toArray), (6, .int .i64 (bs : Int)), (7, .int .i64 (A : Int)), (8, .int .i64 ((2 * bs + A : Nat) : Int))]) (fun (A : Nat) (l2 : List Int) => Row I3 p n cap (l2) :: S :: F) (fun (A : Nat) (l2 : List Int) => 2 * bs ∣ A ∧ A ≤ n ∧ dD.Rl key I3.d l l2 0 n ∧ dD.Bd key I3.d l2 (2 * bs) A ∧ dD.Br key I3.d l2 bs n A) (fun (A : Nat) (l2 : List Int) => n - A) (i2 (0) (_) ?_ (kR (dk ln)) (sub (bp .nil) au)) ?_
   ·exact ⟨Nat.dvd_zero _, Nat.zero_le _, hR1, dD.Bd.zero _ _ (by omega), hBk.br⟩
   intro A l2
   rintro ⟨hA, hAn, hR2, hBd, hBr⟩
   refine rL aH 8 rfl ?_
   refine aP rfl (fun h35 => ?_) (fun h35 => ?_)
   ·refine fQ aH 12 rfl (by omega) ?_
    refine ai (sF p n cap cf fs cs S key Pd hb hf hn2 _ l2 A (A + bs) (2 * bs + A) (Nat.le_refl _) (by omega) (by omega) (by omega) (hR2.pd (Nat.le_refl _) hpd) (hBr.two hA (by omega)).1 (hBr.two hA (by omega)).2) V.Ac  rfl (bp .nil) rfl ?_
    rintro _ _ ⟨rfl, l3, hr3, nD, rfl⟩
    refine cV aH 16 rfl (by omega) ?_
    rw [show ((2 * bs + A : Nat) : Int) + 2 * (bs : Int) = ((2 * bs + (2 * bs + A) : Nat) : Int) by omega]
    exact j2 (2 * bs + A) _ ⟨⟨Nat.dvd_add (Nat.dvd_refl _) hA, by omega, hR2.trans (hr3.wide (Nat.zero_le _) (by omega)), hBd.step hA hr3 nD, hBr.step (by omega) hr3⟩, by omega⟩ (kR (dk ln)) (sub (bp .nil) au)
   ·refine fQ aH 21 rfl (by omega) ?_
    refine aP rfl (fun h54 => ?_) (fun h54 => ?_)
    ·refine rC aH 6 rfl ?_
     refine ai (sF p n cap cf fs cs S key Pd hb hf hn2 _ l2 A (A + bs) n (Nat.le_refl _) (by omega) (by omega) (by omega) (hR2.pd (Nat.le_refl _) hpd) (hBr.last hA (by omega) (by omega)).1 (hBr.last hA (by omega) (by omega)).2) V.Ac  rfl (bp .nil) rfl ?_
     rintro _ _ ⟨rfl, l3, hr3, nD, rfl⟩
     refine cV aH 8 rfl (by omega) ?_
     rw [show (bs : Int) * 2 = ((2 * bs : Nat) : Int) by omega]
     exact j2 (2 * bs) _ ⟨⟨by omega, hR2.trans (hr3.wide (Nat.zero_le _) (Nat.le_refl _)), hBd.fin hA (by omega) (by omega) hr3 nD⟩, by omega⟩ (eN ln) (sub (bp .nil) au)
    ·refine fQ aH 8 rfl (by omega) ?_
     rw [show (bs : Int) * 2 = ((2 * bs : Nat) : Int) by omega]
     exact j2 (2 * bs) _ ⟨⟨by omega, hR2, hBd.fin hA (by omega) (by omega) (dD.Rl.refl _ _ _) (hBr.one hA (by omega))⟩, by omega⟩ (eN ln) (sub (bp .nil) au)
  ·refine rC aH 4 rfl ?_
   exact iV fK ⟨rfl, l1, hR1, hBk.all (by omega), rfl⟩ (sub (bp .nil) au)
theorem H7 (p : Option Addr) (n cap : Nat) (cf : Nat) (fs cs : List Value) (S : ab) (key : Int → Int) (Pd : Int → Prop) (hb : aJ Tryz.prog cf = true) (hf : ∀ x y, Pd x → Pd y → aK Tryz.prog cf (fs ++ [.int .i64 x, .int .i64 y] ++ cs) [S] (aR fun v G => v = .int .i64 (mv (key x) (key y)) ∧ G = [S])) (l : List Int) (hn2 : n ≤ 1000000) (hpd : ∀ i, i < n → Pd (l.getD i I3.d)) : aK Tryz.prog 216 [.slice p n cap, .func (.func cf) fs.toArray cs.toArray] [Row I3 p n cap (l), S] (aR fun v G => v = .tuple #[] ∧ ∃ l2, dD.Rl key I3.d l l2 0 n ∧ dD.Sd key I3.d l2 0 n ∧ G = [Row I3 p n cap (l2), S]) := by
 refine ax [(0, _), (1, _)] Tryz.func216 rfl Tryz.ntmps216 rfl rfl ?_
 intro w0 F
 refine rT aH 5 rfl ?_
 refine ai (Bb p n cap cf fs cs S key Pd hb hf l hn2 hpd) V.PU  rfl (bp .nil) rfl ?_
 rintro _ _ ⟨rfl, l3, hr3, nD, rfl⟩
 refine cH ?_
 exact iV fK ⟨rfl, l3, hr3, nD, rfl⟩ (sub (bp .nil) au)
end Go.Proofs.YtmaiakpjgomnpaaGreat
namespace Go.Proofs.YtmaiakpjgomnpaaGreat
open Go.Sl 
theorem fU : dC Tryz.prog ⟨[], []⟩ = true := by kernel_rfl
theorem yR (x : Int) : aK Tryz.prog 230 [.int .i64 x] [] (aR fun v G => v = .bool false ∧ G = []) := by
 refine ax [(0, _)] Tryz.func230 rfl Tryz.ntmps230 rfl rfl ?_
 intro w0 F
 refine rT fU 14 rfl ?_
 exact aj (aC rfl) ⟨by simp, rfl⟩ (sub .nil au)
theorem BW (x y : Int) : aK Tryz.prog 218 [.int .i64 x, .int .i64 y] [] (aR fun v G => v = .int .i64 (mv x y) ∧ G = []) := by
 refine ax [(0, _), (1, _)] Tryz.func218 rfl Tryz.ntmps218 rfl rfl ?_
 intro w0 F
 refine rT fU 8 rfl ?_
 refine ai (yR x) V.IK  rfl .nil rfl ?_
 rintro _ _ ⟨rfl, rfl⟩
 refine rO fU 6 rfl ?_
 refine ai (yR y) V.IK  rfl .nil rfl ?_
 rintro _ _ ⟨rfl, rfl⟩
 refine rO fU 29 rfl ?_
 refine aP rfl (fun h16 => ?_) (fun h16 => ?_)
 ·refine rC fU 7 rfl ?_
  exact aj (aC rfl) ⟨by rw [mv, if_pos (by assumption)], rfl⟩ (sub .nil au)
 ·refine rC fU 10 rfl ?_
  refine aP rfl (fun h19 => ?_) (fun h19 => ?_)
  ·refine rC fU 7 rfl ?_
   exact aj (aC rfl) ⟨by rw [mv, if_neg (by assumption), if_pos (by omega)], rfl⟩ (sub .nil au)
  ·refine rC fU 8 rfl ?_
   exact aj (aC rfl) ⟨by rw [mv, if_neg (by assumption), if_neg (by omega)], rfl⟩ (sub .nil au)
theorem Kt (p : Option Addr) (n cap : Nat) (ls : List Int) (R : ab) (hR : ∀ w0 h, R w0 h → aS I3 p n ls w0 h) (bL : Nat) (x y : Int) (hx : 0 ≤ x ∧ x < n) (hy : 0 ≤ y ∧ y < n) : aK Tryz.prog 217 [.int .i64 x, .int .i64 y, .pointer (some ⟨bL, 0, none⟩)] [ao bL 47 [.slice p n cap], R] (aR fun v G => v = .int .i64 (mv (ls.getD x.toNat 0) (ls.getD y.toNat 0)) ∧ G = [ao bL 47 [.slice p n cap], R]) := by
 refine ax [(0, _), (1, _), (2, _)] Tryz.func217 rfl Tryz.ntmps217 rfl rfl ?_
 intro w0 F
 refine rT fU 6 rfl ?_
 refine wN [pz 0 [] [2], pz 0 [] [0], pz 3 [0, 1] [], pz 7 [2] [], pz 0 [] [2], pz 0 [] [1], pz 48 [4, 5] [], pz 112 [6] [], pz 255 [3, 7] [], pz 511 [8] []] [⟨fun y => ao bL 47 [.slice p n cap], none, none, [0, 4]⟩, ⟨fun y => R, none, none, [2, 3, 6, 7]⟩] F V.mixed ?_
 refine nR (fun y FF hA => af V.lg rfl an rfl) ?_
 refine nM ?_
 refine nR (fun y FF hA => xI V.cU (by exact aY hR an)) ?_
 refine nR (fun y FF hA => xL V.s3 (by exact aY hR an)) ?_
 refine nR (fun y FF hA => af V.lg rfl an rfl) ?_
 refine nM ?_
 refine nR (fun y FF hA => xI V.cU (by exact aY hR an)) ?_
 refine nR (fun y FF hA => xL V.s3 (by exact aY hR an)) ?_
 refine nE (fun y FF hA => bM (Post := []) (BW _ _) V.OP rfl .nil (fun v G h => by rcases h with ⟨rfl, rfl⟩; exact ⟨rfl, .refl _⟩)) ?_
 refine nA ?_
 refine aX ?_
 intro y hA
 clear hA
 refine bu ?_
 refine cy _ (.cons (d := 5) rfl (.nil _)) ?_
 refine bR (M := ao bL 47 [.slice p n cap] :: R :: F) (fun _ _ h => h) ?_
 refine rC fU 1 rfl ?_
 exact aj (aC rfl) ⟨rfl, rfl⟩ (sub (bp .nil) au)
theorem Iq (C : List Int) (all : Int) (hl : C.length = 16) (hC : ∀ i, 0 ≤ C.getD i 0 ∧ C.getD i 0 ≤ 320) : aK Tryz.prog 215 [.agg (ints .i64 C).toArray, .int .i64 all] [] (aR fun v G => v = .bool (ag.gS C all) ∧ G = []) := by
 refine ax [(0, _), (1, _)] Tryz.func215 rfl Tryz.ntmps215 rfl rfl ?_
 intro w0 F
 refine rT fU 2 rfl ?_
 refine eU rfl (vD _ _) rfl ?_
 intro b2
 refine rO fU 15 rfl ?_
 refine dV (fun (k : Nat) => [(1, .int .i64 all), (2, .pointer (some ⟨b2, 0, none⟩)), (5, .int .i64 (ag.left C k)), (6, .int .i64 ((k : Int) + 1))]) (fun (k : Nat) => ao b2 229 (CA [] .i64 C []) :: F) (fun (k : Nat) => k ≤ 15 ∧ ∀ m, 1 ≤ m → m ≤ k → 0 ≤ ag.left C m) (fun (k : Nat) => 15 - k) (i1 (0) ?_ (eN ln) (sub (aw .nil) au)) ?_
 ·exact ⟨by omega, fun m h1 h2 => by omega⟩
 intro k
 rintro ⟨hk, hno⟩
 have hcc := hC ((k : Int) + 1).toNat
 have hlb := ag.zZ (fun i => (hC i).1) hk
 have hl0 := ag.Hm hno
 have hlen : C.length = 16 := hl
 refine rL fU 7 rfl ?_
 refine aP rfl (fun h8 => ?_) (fun h8 => ?_)
 ·refine fQ fU 9 rfl (by omega) ?_
  refine oV (iy (k + 1) rfl V.pe rfl rfl (by omega)) ?_
  refine oV (mQ ((k : Int) + 1) V.s3 rfl an (by (simp only [List.length_cons, List.length_nil]; omega)) (by omega) (by omega)) ?_
  refine cV fU 10 rfl (by omega) ?_
  refine aP rfl (fun h18 => ?_) (fun h18 => ?_)
  ·refine rC fU 11 rfl ?_
   exact aj (aC rfl) ⟨by rw [ag.xm (n := k + 1) (by omega) (by omega) (by rw [← ag.qN]; exact h18)], rfl⟩ (sub .nil cG)
  ·refine fQ fU 8 rfl (by omega) ?_
   have hno2 := ag.Be hno h18
   rw [ag.qN]
   exact j1 (k + 1) ⟨⟨by omega, hno2⟩, by omega⟩ (eN ln) (sub (aw .nil) au)
 ·refine rC fU 10 rfl ?_
  refine fD 21 rfl (fun h21 => ?_) (fun h21 => ?_)
  ·refine rO fU 16 rfl ?_
   exact aj (aC rfl) ⟨by rw [ag.nh hk h8 hno]; (simp [h21]; done), rfl⟩ (sub .nil cG)
  ·refine rO fU 4 rfl ?_
   refine fD 25 rfl (fun h25 => ?_) (fun h25 => ?_)
   ·refine rO fU 12 rfl ?_
    exact aj (aC rfl) ⟨by rw [ag.nh hk h8 hno]; (simp [h21, h25]; done), rfl⟩ (sub .nil cG)
   ·refine rO fU 3 rfl ?_
    refine fD 28 rfl (fun h28 => ?_) (fun h28 => ?_)
    ·refine ae rfl ?_
     refine oV (iy 1 rfl V.pe rfl rfl (by omega)) ?_
     refine ae rfl ?_
     refine oV (mQ (1 : Int) V.s3 rfl an (by (simp only [List.length_cons, List.length_nil]; omega)) (by omega) (by omega)) ?_
     refine rO fU 7 rfl ?_
     exact aj (aC rfl) ⟨by rw [ag.nh hk h8 hno]; (simp [h21, h25, h28]; done), rfl⟩ (sub .nil cG)
    ·refine rO fU 9 rfl ?_
     exact aj (aC rfl) ⟨by rw [ag.nh hk h8 hno]; (simp [h21, h25, h28]; done), rfl⟩ (sub .nil cG)
end Go.Proofs.YtmaiakpjgomnpaaGreat
namespace Go.Proofs.YtmaiakpjgomnpaaGreat
open Go.Sl 
theorem dN : dC Tryz.prog ⟨[47], [(275, 0, 0), (275, 2, 17), (275, 3, 18)]⟩ = true := by kernel_rfl
attribute [local irreducible] ag.ord ag.iX ag.dP ag.cQ ag.dj ag.words ag.gg ag.lenOf ag.cu ag.left ag.gS
set_option maxHeartbeats 1000000 in
theorem Gg (p : Option Addr) (cap : Nat) (ls : List Int) (R : ab) (hR : ∀ w0 h, R w0 h → aS I3 p ls.length ls w0 h) : aK Tryz.prog 195 [.slice p ls.length cap] [R] (aR fun v G => (ag.cu ls = 0 ∧ ∃ b, v = .tuple #[.pointer (some ⟨b, 0, none⟩), .int .i64 0] ∧ G = [HC b ls, R]) ∨ (ag.cu ls ≠ 0 ∧ v = .tuple #[.pointer none, .int .i64 (ag.cu ls)] ∧ G = [R])) := by
 refine ax [(0, _)] Tryz.func195 rfl Tryz.ntmps195 rfl rfl ?_
 intro w0 F
 refine rT dN 2 rfl ?_
 refine eU rfl (cs := [_]) rfl rfl ?_
 intro b1
 refine rO dN 7 rfl ?_
 refine oV (af V.lg rfl an rfl) ?_
 refine rO dN 4 rfl ?_
 refine aP rfl (fun h13 => ?_) (fun h13 => ?_)
 ·refine rC dN 8 rfl ?_
  exact aj (fH rfl rfl) (.inr ⟨by rw [ag.u9 (by omega)]; decide, by rw [ag.u9 (by omega)], rfl⟩) (sub (.cons aE .nil) cG)
 ·refine rC dN 4 rfl ?_
  refine oV (af V.lg rfl an rfl) ?_
  refine oV (eM (ty' := 0) Tryz.underlying47 rfl) ?_
  refine nW ls.length ls.length (qA) rfl rfl V.FC V.Kg rfl rfl rfl rfl (by omega) (by omega) rfl rfl ?_
  intro b16
  refine oV (bV V.ME V.O3 rfl (cs := [_, _, _, _, _, _, _, _, _, _, _, _, _, _, _, _, _, _, _]) rfl) ?_
  refine eU rfl (show _ = CA [.slice (some ⟨b16, 0, none⟩) ls.length ls.length] .i64 (ag.cQ (ls.take 0)) [.slice none (ag.dP (ls.take 0)).length 0, .int .i64 (ag.dj (ls.take 0))] from by rw [List.take_zero, ag.EZ, ag.w4, ag.EI]; rfl) rfl ?_
  intro py
  refine rO dN 6 rfl ?_
  refine oV (af V.lg rfl cx rfl) ?_
  refine rO dN 5 rfl ?_
  refine hH (Row I3 none (ag.dP (ls.take 0)).length 0 (ag.dP (ls.take 0))) (by rw [List.take_zero, ag.w4]; exact Row.nil _ _ _) ?_
  refine j0 (fun (k : Nat) (po : Option Addr) (co : Nat) => [(1, .pointer (some ⟨b1, 0, none⟩)), (4, .pointer (some ⟨py, 0, none⟩)), (19, .slice p ls.length cap), (20, .int .i64 (ls.length : Int)), (21, .int .i64 (k : Int))]) (fun (k : Nat) (po : Option Addr) (co : Nat) => ao py 275 (CA [.slice (some ⟨b16, 0, none⟩) ls.length ls.length] .i64 (ag.cQ (ls.take k)) [.slice po (ag.dP (ls.take k)).length co, .int .i64 (ag.dj (ls.take k))]) :: Row I3 po (ag.dP (ls.take k)).length co (ag.dP (ls.take k)) :: Row qA (some ⟨b16, 0, none⟩) ls.length ls.length (List.replicate ls.length (0, 0)) :: ao b1 47 [.slice p ls.length cap] :: R :: F) (fun (k : Nat) (po : Option Addr) (co : Nat) => k ≤ ls.length ∧ ∀ i, i < k → 0 ≤ ls.getD i 0 ∧ ls.getD i 0 ≤ 15) (fun (k : Nat) (po : Option Addr) (co : Nat) => ls.length - k) (i3 (0) (none) (0) ?_ (dk ln) (sub (.cons aE (nz .nil)) au)) ?_
  ·exact ⟨by omega, fun i hi => by omega⟩
  intro k po co
  rintro ⟨hk, hok⟩
  refine rL dN 6 rfl ?_
  refine aP rfl (fun h22 => ?_) (fun h22 => ?_)
  ·refine rC dN 7 rfl ?_
   refine oV (xI V.cU (by exact aY hR jv)) ?_
   refine oV (xL V.s3 (by exact aY hR jv)) ?_
   refine rO dN 6 rfl ?_
   have hk2 : k < ls.length := by omega
   have hg : I3.g ls (k : Int) = ls.getD k 0 := by simp [Ec.g]
   have hg2 : ls.getD k 0 = ls[k] := by simp [hk2]
   have htk : (ls.take k).length = k := by rw [List.length_take]; omega
   have hcl := ag.km (ls.take k)
   have hcb := ag.o0 (ls := ls.take k) (by omega) (I3.g ls (k : Int)).toNat
   have hpl2 := ag.uF (ls.take k)
   refine rC dN 4 rfl ?_
   refine fD 28 rfl (fun h28 => ?_) (fun h28 => ?_)
   ·refine rO dN 19 rfl ?_
    exact aj (fH rfl rfl) (.inr ⟨by rw [ag.oH (by omega) hk2 (by omega)]; decide, by rw [ag.oH (by omega) hk2 (by omega)], rfl⟩) (sub (.cons jH .nil) mE)
   ·refine rO dN 5 rfl ?_
    refine aP rfl (fun h31 => ?_) (fun h31 => ?_)
    ·refine rC dN 13 rfl ?_
     exact aj (fH rfl rfl) (.inr ⟨by rw [ag.oH (by omega) hk2 (by omega)]; decide, by rw [ag.oH (by omega) hk2 (by omega)], rfl⟩) (sub (.cons jH .nil) mE)
    ·refine rC dN 8 rfl ?_
     refine aP rfl (fun h33 => ?_) (fun h33 => ?_)
     ·refine rC dN 1 rfl ?_
      refine wN [pz 0 [] [4], pz 0 [] [6], pz 1 [0] [], pz 5 [2] [], pz 15 [3, 1] [], pz 31 [4] [], pz 63 [5] [], pz 1 [0] [], pz 129 [7] [], pz 511 [8, 1] [], pz 1023 [9, 6] []] [⟨fun y => ao py 275 (CA [.slice (some ⟨b16, 0, none⟩) ls.length ls.length] .i64 (ag.cQ (ls.take k)) [.slice po (ag.dP (ls.take k)).length co, .int .i64 (ag.dj (ls.take k))]), none, some 10, [5]⟩, ⟨fun y => Row I3 po (ag.dP (ls.take k)).length co (ag.dP (ls.take k)), none, none, []⟩, ⟨fun y => Row qA (some ⟨b16, 0, none⟩) ls.length ls.length (List.replicate ls.length (0, 0)), none, none, []⟩, ⟨fun y => ao b1 47 [.slice p ls.length cap], none, none, []⟩, ⟨fun y => R, none, none, []⟩, ⟨fun y => ao py 275 (CA [.slice (some ⟨b16, 0, none⟩) ls.length ls.length] .i64 ((ag.cQ (ls.take k)).set (((I3.g ls (k : Int))).toNat) (((ag.cQ (ls.take k)).getD (((I3.g ls (k : Int))).toNat) 0) + 1)) [.slice po (ag.dP (ls.take k)).length co, .int .i64 (ag.dj (ls.take k))]), some 10, none, []⟩] F V.mixed ?_
      iterate 2 refine nM ?_
      refine nN ?_
      refine nG V.wx ?_
      refine nV (fun y hA L => iy (((I3.g ls (k : Int))).toNat) (by omega) V.pe rfl rfl (by omega)) ?_
      refine nR (fun y FF hA => mQ (I3.g ls (k : Int)) V.s3 rfl an (by (simp only [List.length_cons, List.length_nil]; omega)) (by omega) (by omega)) ?_
      refine nV (fun y hA L => dz rfl rfl wI) ?_
      refine nN ?_
      refine nG V.wx ?_
      refine nV (fun y hA L => iy (((I3.g ls (k : Int))).toNat) (by omega) V.pe rfl rfl (by omega)) ?_
      refine nE (fun y FF hA => dp (yi (I3.g ls (k : Int)) V.s3 rfl rfl (by exact cZ) (by (simp only [List.length_cons, List.length_nil]; omega)) (by omega) (by omega)) ⟨rfl, .refl _⟩) ?_
      refine aX ?_
      intro y hA
      clear hA
      refine bu ?_
      refine cy _ (.cons (d := 1) rfl (.cons (d := 4) rfl (.cons (d := 5) rfl (.cons (d := 6) rfl (.cons (d := 19) rfl (.cons (d := 20) rfl (.cons (d := 21) rfl (.nil _)))))))) ?_
      refine bR (M := Row I3 po (ag.dP (ls.take k)).length co (ag.dP (ls.take k)) :: Row qA (some ⟨b16, 0, none⟩) ls.length ls.length (List.replicate ls.length (0, 0)) :: ao b1 47 [.slice p ls.length cap] :: R :: ao py 275 (CA [.slice (some ⟨b16, 0, none⟩) ls.length ls.length] .i64 ((ag.cQ (ls.take k)).set (((I3.g ls (k : Int))).toNat) (((ag.cQ (ls.take k)).getD (((I3.g ls (k : Int))).toNat) 0) + 1)) [.slice po (ag.dP (ls.take k)).length co, .int .i64 (ag.dj (ls.take k))]) :: F) (fun _ _ h => h) ?_
      refine rC dN 6 rfl ?_
      refine oV (lW (n := 16) 0 V.lg rfl jv (by (simp only [List.length_set]; omega)) rfl rfl) ?_
      refine oV (aG rfl) ?_
      refine ef (I3) [(k : Int)] V.cU V.z3 rfl rfl rfl rfl rfl rfl ?_
      intro b50
      refine ek (c := (I3)) V.cU V.z3 rfl rfl rfl rfl aE (own an) (by omega) rfl ?_
      intro p51 c51
      refine rO dN 2 rfl ?_
      refine aQ (xu (n := 16) 0 V.lg rfl rfl rfl (by exact CL) (by (simp only [List.length_set]; omega)) rfl (by exact Nat.le_of_ble_eq_true rfl) rfl) ?_
      refine rO dN 7 rfl ?_
      refine oV (lW (n := 16) 1 V.s3 rfl Oo (by (simp only [List.length_set]; omega)) rfl rfl) ?_
      refine oV (aG rfl) ?_
      refine oV (zT rfl rfl) ?_
      refine rO dN 2 rfl ?_
      refine aQ (xu (n := 16) 1 V.s3 rfl rfl rfl (by exact CL) (by (simp only [List.length_set]; omega)) rfl (by exact Nat.le_of_ble_eq_true rfl) rfl) ?_
      refine cV dN 7 rfl (by omega) ?_
      have hok2 := ag.yl hok (by omega)
      (obtain ⟨e1, e2, e3, e4⟩ := ag.step_pos hk2 (hg.trans hg2) (by omega) (by omega); rw [e1, e2, e3, e4]; exact j3 (k + 1) _ _ ⟨⟨by omega, hok2⟩, by omega⟩ (dk ln) (sub (.cons kd (aw (.cons aE (.cons aE (.cons aE .nil))))) cG))
     ·refine fQ dN 7 rfl (by omega) ?_
      have hok2 := ag.yl hok (by omega)
      (obtain ⟨e1, e2, e3⟩ := ag.CX hk2 (hg.trans hg2) (by omega); rw [← e1, ← e2, ← e3]; exact j3 (k + 1) _ _ ⟨⟨by omega, hok2⟩, by omega⟩ (dk ln) (sub (pA .nil) au))
  ·refine rC dN 7 rfl ?_
   have hkn : k = ls.length := by omega
   subst hkn
   rw [List.take_length] at *
   have hvv := ag.H4 hok (Nat.le_refl _)
   have hcl := ag.km ls
   have hE0 := ag.H5 (by omega) hvv
   refine wN [pz 0 [] [4], pz 1 [0] [], pz 3 [1] [], pz 7 [2] [], pz 0 [] [4], pz 16 [4] [], pz 48 [5] [], pz 112 [6] [], pz 240 [7] [], pz 511 [3, 8] [], pz 1023 [9] []] [⟨fun y => ao py 275 (CA [.slice (some ⟨b16, 0, none⟩) ls.length ls.length] .i64 (ag.cQ ls) [.slice po (ag.dP ls).length co, .int .i64 (ag.dj ls)]), none, none, [3, 7]⟩, ⟨fun y => Row I3 po (ag.dP ls).length co (ag.dP ls), none, none, []⟩, ⟨fun y => Row qA (some ⟨b16, 0, none⟩) ls.length ls.length (List.replicate ls.length (0, 0)), none, none, []⟩, ⟨fun y => ao b1 47 [.slice p ls.length cap], none, none, []⟩, ⟨fun y => R, none, none, []⟩] F V.mixed ?_
   refine nM ?_
   refine nN ?_
   refine nG V.wx ?_
   refine nR (fun y FF hA => Bj V.a229 rfl an (by omega) rfl) ?_
   refine nM ?_
   refine nN ?_
   refine nG V.Iy ?_
   refine nR (fun y FF hA => lW (n := 16) 0 V.lg rfl an (by omega) rfl rfl) ?_
   refine nV (fun y hA L => eM (ty' := 0) Tryz.underlying47 rfl) ?_
   refine nE (fun y FF hA => bM (Post := []) (Iq (ag.cQ ls) _ (ag.km _) (ag.o0 (by omega))) V.Qg rfl .nil (fun v G h => by rcases h with ⟨rfl, rfl⟩; exact ⟨rfl, .refl _⟩)) ?_
   refine nV (fun y hA L => l8 rfl) ?_
   refine aX ?_
   intro y hA
   clear hA
   refine bu ?_
   refine cy _ (.cons (d := 1) rfl (.cons (d := 4) rfl (.cons (d := 74) rfl (.nil _)))) ?_
   refine bR (M := ao py 275 (CA [.slice (some ⟨b16, 0, none⟩) ls.length ls.length] .i64 (ag.cQ ls) [.slice po (ag.dP ls).length co, .int .i64 (ag.dj ls)]) :: Row I3 po (ag.dP ls).length co (ag.dP ls) :: Row qA (some ⟨b16, 0, none⟩) ls.length ls.length (List.replicate ls.length (0, 0)) :: ao b1 47 [.slice p ls.length cap] :: R :: F) (fun _ _ h => h) ?_
   refine qg rfl (fun h74 => ?_) (fun h74 => ?_)
   ·refine rC dN 1 rfl ?_
    have hE : ag.cu ls = 4 := by rw [hE0, if_neg (by simpa using h74)]
    refine rC dN 7 rfl ?_
    exact aj (fH rfl rfl) (.inr ⟨by rw [hE]; decide, by rw [hE], rfl⟩) (sub (.cons jH .nil) mE)
   ·refine rC dN 3 rfl ?_
    have hE : ag.cu ls = 0 := by rw [hE0, if_pos (by simpa using h74)]
    have hV := (ag.lQ hE).1
    have hW := (ag.lQ hE).2
    have hpl := ag.wF hV
    have hpn := ag.uF ls
    refine L8 (A := [ao b1 47 [.slice p ls.length cap], R]) (.cons eg (.cons eg .nil)) ?_
    refine rC dN 4 rfl ?_
    refine oV (lW (n := 16) 0 V.lg rfl bY (by omega) rfl rfl) ?_
    refine oV (zy (fs := []) (cs := [_]) rfl rfl) ?_
    refine ai (H7 po (ag.dP ls).length co 217 [] [.pointer (some ⟨b1, 0, none⟩)] (ql [ao b1 47 [.slice p ls.length cap], R]) (ag.key ls) (fun x => 0 ≤ x ∧ x < ls.length) V.Pb (fun x y hx hy => (Kt p ls.length cap ls R hR b1 x y hx hy).star) (ag.dP ls) (by omega) (ag.H0 ls)) V.PI  rfl (.cons bK (aw .nil)) rfl ?_
    rintro _ _ ⟨rfl, l2, hR2, hS2, rfl⟩
    obtain rfl := ag.Dd hvv hR2 hS2
    refine rO dN 3 rfl ?_
    refine Ey aE ?_
    rw [hpl]
    refine rC dN 11 rfl ?_
    refine oV (lW (n := 16) 0 V.lg rfl eL (by omega) rfl rfl) ?_
    refine rO dN 5 rfl ?_
    rw [← ag.xX]
    refine dV (fun (k : Nat) => [(1, .pointer (some ⟨b1, 0, none⟩)), (4, .pointer (some ⟨py, 0, none⟩)), (7, .int .i64 (ag.xR ls k)), (8, .int .i64 (ag.ny ls k)), (84, .slice po (ag.ord ls).length co), (85, .int .i64 ((ag.ord ls).length : Int)), (86, .int .i64 (k : Int))]) (fun (k : Nat) => ao py 275 (CA [.slice (some ⟨b16, 0, none⟩) ls.length ls.length] .i64 (ag.cQ ls) [.slice po (ag.ord ls).length co, .int .i64 (ag.dj ls)]) :: Row I3 po (ag.ord ls).length co (ag.ord ls) :: Row qA (some ⟨b16, 0, none⟩) ls.length ls.length (ag.iX ls k) :: ao b1 47 [.slice p ls.length cap] :: R :: F) (fun (k : Nat) => k ≤ (ag.ord ls).length) (fun (k : Nat) => (ag.ord ls).length - k) (i1 (0) ?_ (kF (dk ln)) (sub (.cons eg (.cons bK (.cons bK (bp .nil)))) au)) ?_
    ·exact Nat.zero_le _
    intro k
    rintro hk
    refine rL dN 6 rfl ?_
    refine aP rfl (fun h87 => ?_) (fun h87 => ?_)
    ·refine rC dN 5 rfl ?_
     have hk2 : k < (ag.ord ls).length := by omega
     obtain ⟨s, hs⟩ := ag.OW hW hk2
     have hgs : I3.g (ag.ord ls) (k : Int) = (s : Int) := by rw [← hs.sym]; simp [Ec.g]
     have hsl := hs.lt
     refine bo ?_
     refine oV (xI V.cU (own bY)) ?_
     refine oV (xL V.s3 (own bY)) ?_
     refine rO dN 4 rfl ?_
     rw [hgs]
     have hls : I3.g ls (s : Int) = (ag.lenOf ls s : Int) := by rw [← hs.len]; simp [Ec.g]
     have hs1 := hs.top
     have hs2 := hs.nn
     have nD := hs.ge
     have hs4 := hs.w0
     have hs5 : ag.gg ls s < 32768 := by have := ag.pH hs.top; have := hs.w1; omega
     refine rC dN 2 rfl ?_
     refine oV (af V.lg rfl eL rfl) ?_
     refine oV (aG rfl) ?_
     refine oV (xI V.cU (by exact aY hR jv)) ?_
     refine oV (xL V.s3 (by exact aY hR jv)) ?_
     refine cV dN 2 rfl (by omega) ?_
     refine oV (fW (r := ag.gg ls s) rfl rfl (by omega) (EL hs hls)) ?_
     refine rO dN 5 rfl ?_
     refine oV (af V.lg rfl eL rfl) ?_
     refine oV (aG rfl) ?_
     refine oV (xI V.cU (by exact aY hR jv)) ?_
     refine oV (xL V.s3 (by exact aY hR jv)) ?_
     refine rO dN 4 rfl ?_
     rw [hls]
     refine rC dN 4 rfl ?_
     refine oV (af V.Qj rfl an rfl) ?_
     refine rO dN 3 rfl ?_
     refine oV (bV V.M6 V.Kg rfl (cs := [_, _]) rfl) ?_
     refine oV (xI V.FC (own cx)) ?_
     refine aQ (Ed (c := (qA)) ((ag.gg ls s, (ag.lenOf ls s : Int))) V.P1 rfl rfl (by exact nm) (by omega) (by omega) rfl) ?_
     refine cV dN 13 rfl (by omega) ?_
     have en : ag.gg ls s + 1 = ag.xR ls (k + 1) := by simp only [ag.xR]; rw [hs.sym]; simp
     have el : (ag.lenOf ls s : Int) = ag.ny ls (k + 1) := by simp only [ag.ny]; rw [hs.sym]; simp
     rw [Int.toNat_natCast, ← ag.x7 hk2 hs, en, el]
     refine j1 (k + 1) ?_ (kF (dk ln)) (sub (pA .nil) au)
     exact ⟨by omega, by omega⟩
    ·refine rC dN 13 rfl ?_
     exact aj (fH rfl rfl) (.inl ⟨hE, py, rfl, rfl⟩) ((bd (aw (.cons aE (.cons dX .nil))) au (fun w0 h hh => oN (ag.zW hV (by omega)) hh)).trans (sub (aw (.cons aE .nil)) cG))
end Go.Proofs.YtmaiakpjgomnpaaGreat
