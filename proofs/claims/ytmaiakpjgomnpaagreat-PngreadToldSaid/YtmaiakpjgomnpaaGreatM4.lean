/- Walks of functions that the law reaches, and what they lean on; no conditions. -/
import Derived.Test.YtmaiakpjgomnpaaGreatM3
import Derived.Test.YtmaiakpjgomnpaaGreatM1
import Derived.Test.YtmaiakpjgomnpaaGreatM2
import Derived.Test.YtmaiakpjgomnpaaGreatProg
import Derived.KernelRfl
set_option linter.unusedVariables false
set_option linter.unusedSimpArgs false
set_option maxRecDepth 100000
namespace Go.aa
open Go.aj Go.Sl
theorem uh (B : List Int) (a : Nat) {n : Nat} (hn : n ≤ 24) : 0 ≤ cZ B a n ∧ cZ B a n < 16777216 := by
  have h := mK B a n
  have h2 : (2 : Nat) ^ n ≤ 2 ^ 24 := Nat.pow_le_pow_right (by decide) hn
  have h3 : (2 : Int) ^ n = ((2 ^ n : Nat) : Int) := by simp
  rw [h3] at h
  omega
theorem Ol {B : List Int} {a k : Nat} (hk : k ≤ 24) : IntKind.i64.wrap (cZ B a k * 2 ^ (min (1 : Int).toNat IntKind.i64.bits)) = 2 * cZ B a k := by
  have h := uh B a hk
  exact FG h.1 (by omega)
theorem QV {B : List Int} {a k : Nat} (hk : k ≤ 24) : IntKind.i64.wrap ((BitVec.ofInt IntKind.i64.bits (2 * cZ B a k) ||| BitVec.ofInt IntKind.i64.bits (gZ B (a + k))).toNat : Int) = cZ B a (k + 1) := by
  have h := uh B a hk
  rw [CL h.1 (by omega) (rh _ _)]
  rfl
def jH (d : Int) : Prop := d = 1 ∨ d = 2 ∨ d = 4 ∨ d = 8 ∨ d = 16
def up (d v : Int) : Int := v * (65535 / (2 ^ d.toNat - 1))
theorem mP {d : Int} (h : jH d) : (2 : Int) ≤ 2 ^ d.toNat ∧ (2 : Int) ^ d.toNat ≤ 65536 := by rcases h with rfl | rfl | rfl | rfl | rfl <;> decide
theorem jR {d : Int} (h : jH d) : 1 ≤ d ∧ d ≤ 16 := by rcases h with rfl | rfl | rfl | rfl | rfl <;> decide
theorem mO {d : Int} (h : jH d) : IntKind.i64.wrap (1 * 2 ^ (min d.toNat IntKind.i64.bits)) = 2 ^ d.toNat := by rcases h with rfl | rfl | rfl | rfl | rfl <;> decide
theorem iD {c d : Int} (h : deep c d) : jH d := by
  unfold deep at h
  unfold jH
  omega
theorem my {c d : Int} (h : deep c d) : 1 ≤ parts c ∧ parts c ≤ 4 ∧ 1 ≤ parts c * d ∧ parts c * d ≤ 64 := by
  unfold deep at h
  rcases h with ⟨rfl, h⟩ | ⟨rfl, h⟩ | ⟨rfl | rfl | rfl, h⟩
  · rw [show parts 0 = 1 from rfl]; omega
  · rw [show parts 3 = 1 from rfl]; omega
  · rw [show parts 2 = 3 from rfl]; omega
  · rw [show parts 4 = 2 from rfl]; omega
  · rw [show parts 6 = 4 from rfl]; omega
theorem Ae {d v : Int} (h : jH d) (h0 : 0 ≤ v) (h1 : v < 2 ^ d.toNat) : 0 ≤ up d v ∧ up d v ≤ 65535 := by
  unfold up
  rcases h with rfl | rfl | rfl | rfl | rfl
  · have : v < 2 := h1; simp; omega
  · have : v < 4 := h1; simp; omega
  · have : v < 16 := h1; simp; omega
  · have : v < 256 := h1; simp; omega
  · have : v < 65536 := h1; simp; omega
theorem up_mul {d v P : Int} (hP : P = 2 ^ d.toNat) (h : jH d) (h0 : 0 ≤ v) (h1 : v < P) : IntKind.i64.wrap (v * (65535 / (P - 1))) = up d v := by
  subst hP
  have := Ae h h0 h1
  unfold up at this ⊢
  exact gF (by omega) (by omega)
theorem Bz {n : Int} (h : 0 ≤ n ∧ n ≤ 65535) : IntKind.u16.wrap n = n := by
  have : IntKind.u16.wrap n = n % 65536 := rfl
  omega
theorem RI (x : Int) : up 8 x = x * 257 := by unfold up; rfl
theorem It {d : Int} (h : jH d) : d = 1 ∨ (d ≠ 1 ∧ d = 2) ∨ (d ≠ 1 ∧ d ≠ 2 ∧ d = 4) ∨ (d ≠ 1 ∧ d ≠ 2 ∧ d ≠ 4 ∧ d = 8) ∨ (d ≠ 1 ∧ d ≠ 2 ∧ d ≠ 4 ∧ d ≠ 8 ∧ d = 16) := by
  unfold jH at h
  omega
theorem wx {w h x y : Int} (hx : 0 ≤ x ∧ x < w) (hy : 0 ≤ y ∧ y < h) : 0 ≤ y * w ∧ 0 ≤ y * w + x ∧ y * w + x + 1 ≤ w * h := by
  have h1 : 0 ≤ y * w := Int.mul_nonneg hy.1 (by omega)
  have h2 : (y + 1) * w ≤ h * w := Int.mul_le_mul_of_nonneg_right (by omega) (by omega)
  rw [Int.add_mul, Int.one_mul, Int.mul_comm h w] at h2
  omega
def SU (w : Int) (c5 : List Int) (x y : Int) : List Int := (c5.drop (4 * (y * w + x)).toNat).take 4
theorem Fo {w : Int} {c5 : List Int} {x y : Int} {c : List Int} (hc : c.length = 4) (h : (4 * (y * w + x)).toNat + 4 ≤ c5.length) : (l8 w c5 x y c).length = c5.length := by
  simp [l8, hc]
  omega
def iY (w1 h1 : Int) (n1 : Nat) (w2 h2 : Int) (n2 : Nat) (L1 L2 : List Int) : Prop := (bR w1 h1 = 0 ∧ (n1 : Int) = 4 * w1 * h1) ∧ (bR w2 h2 = 0 ∧ (n2 : Int) = 4 * w2 * h2) ∧ w1 = w2 ∧ h1 = h2 ∧ L1 = L2
theorem NC (w1 h1 : Int) (n1 : Nat) (w2 h2 : Int) (n2 : Nat) (L1 L2 : List Int) :
    (¬ (bR w1 h1 = 0 ∧ (n1 : Int) = 4 * w1 * h1) ∧ ¬ iY w1 h1 n1 w2 h2 n2 L1 L2) ∨
    ((bR w1 h1 = 0 ∧ (n1 : Int) = 4 * w1 * h1) ∧ ¬ (bR w2 h2 = 0 ∧ (n2 : Int) = 4 * w2 * h2) ∧ ¬ iY w1 h1 n1 w2 h2 n2 L1 L2) ∨
    ((bR w1 h1 = 0 ∧ (n1 : Int) = 4 * w1 * h1) ∧ (bR w2 h2 = 0 ∧ (n2 : Int) = 4 * w2 * h2) ∧ w1 ≠ w2 ∧ ¬ iY w1 h1 n1 w2 h2 n2 L1 L2) ∨
    ((bR w1 h1 = 0 ∧ (n1 : Int) = 4 * w1 * h1) ∧ (bR w2 h2 = 0 ∧ (n2 : Int) = 4 * w2 * h2) ∧ w1 = w2 ∧ h1 ≠ h2 ∧ ¬ iY w1 h1 n1 w2 h2 n2 L1 L2) ∨
    ((bR w1 h1 = 0 ∧ (n1 : Int) = 4 * w1 * h1) ∧ (bR w2 h2 = 0 ∧ (n2 : Int) = 4 * w2 * h2) ∧ w1 = w2 ∧ h1 = h2 ∧ n1 = n2) := by
  by_cases a : (bR w1 h1 = 0 ∧ (n1 : Int) = 4 * w1 * h1)
  · by_cases b : (bR w2 h2 = 0 ∧ (n2 : Int) = 4 * w2 * h2)
    · by_cases c : w1 = w2
      · by_cases d : h1 = h2
        · exact .inr (.inr (.inr (.inr ⟨a, b, c, d, by subst c; subst d; omega⟩)))
        · exact .inr (.inr (.inr (.inl ⟨a, b, c, d, fun h => d h.2.2.2.1⟩)))
      · exact .inr (.inr (.inl ⟨a, b, c, fun h => c h.2.2.1⟩))
    · exact .inr (.inl ⟨a, b, fun h => b h.2.1⟩)
  · exact .inl ⟨a, fun h => a h.1⟩
theorem GD {L1 L2 : List Int} {i : Nat} (h : L1.getD i 0 ≠ L2.getD i 0) : L1 ≠ L2 := fun e => h (by rw [e])
theorem BL {L1 L2 : List Int} (hl : L1.length = L2.length) (h : ∀ j, j < L1.length → L1.getD j 0 = L2.getD j 0) : L1 = L2 := by
  refine List.ext_getElem hl fun j h1 h2 => ?_
  have := h j h1
  rwa [List.getD_eq_getElem?_getD, List.getD_eq_getElem?_getD, List.getElem?_eq_getElem h1, List.getElem?_eq_getElem h2] at this
end Go.aa
namespace Go.aa
open Go.aj Go.Sl
theorem gG (l : List Int) (n i : Nat) : (l.drop n).getD i 0 = l.getD (n + i) 0 := by simp [List.getD_eq_getElem?_getD, List.getElem?_drop]
theorem K6 {B : List Int} (hB : au B) (j : Nat) : cZ B (8 * j) 16 * 65536 + cZ B (8 * j + 16) 16 = aJ.dY (B.drop j) := by
  rw [qV (hB.get _) (hB.get _), show 8 * j + 16 = 8 * (j + 2) by omega, qV (hB.get _) (hB.get _)]
  unfold aJ.dY
  rw [gG, gG, gG, gG]
  simp only [Nat.add_zero]
  rw [show j + 2 + 1 = j + 3 from rfl]
  omega
theorem AB (B : List Int) (a : Nat) : 0 ≤ cZ B a 16 ∧ cZ B a 16 < 65536 := by have := mK B a 16; omega
def Dh (B : List Int) (a : Nat) : Nat → Int
  | 0 => 0
  | n + 1 => Dh B a n * 256 + B.getD (a + n) 0
def JA (B : List Int) : Hd := if fc B = 0 then a8 B else ⟨0, 0, 0, 0, false⟩
theorem vK {B : List Int} (h : fc B = 0) : JA B = a8 B := if_pos h
theorem pB {B : List Int} {e : Int} (h : fc B = e) (he : e ≠ 0) : JA B = ⟨0, 0, 0, 0, false⟩ := if_neg (by rw [h]; exact he)
theorem zy (B : List Int) : (B.length ≠ 13 ∧ fc B = 4) ∨
    (¬ B.length ≠ 13 ∧ ¬ deep (a8 B).ax (a8 B).dep ∧ fc B = 4) ∨
    (¬ B.length ≠ 13 ∧ deep (a8 B).ax (a8 B).dep ∧ 0 < B.getD 10 0 + B.getD 11 0 ∧ fc B = 4) ∨
    (¬ B.length ≠ 13 ∧ deep (a8 B).ax (a8 B).dep ∧ ¬ 0 < B.getD 10 0 + B.getD 11 0 ∧ 1 < B.getD 12 0 ∧ fc B = 4) ∨
    (¬ B.length ≠ 13 ∧ deep (a8 B).ax (a8 B).dep ∧ ¬ 0 < B.getD 10 0 + B.getD 11 0 ∧ ¬ 1 < B.getD 12 0 ∧ (a8 B).w = 0 ∧ fc B = 4) ∨
    (¬ B.length ≠ 13 ∧ deep (a8 B).ax (a8 B).dep ∧ ¬ 0 < B.getD 10 0 + B.getD 11 0 ∧ ¬ 1 < B.getD 12 0 ∧ ¬ (a8 B).w = 0 ∧ (a8 B).h = 0 ∧ fc B = 4) ∨
    (¬ B.length ≠ 13 ∧ deep (a8 B).ax (a8 B).dep ∧ ¬ 0 < B.getD 10 0 + B.getD 11 0 ∧ ¬ 1 < B.getD 12 0 ∧ ¬ (a8 B).w = 0 ∧ ¬ (a8 B).h = 0 ∧ bR (a8 B).w (a8 B).h ≠ 0 ∧ fc B = 6) ∨
    (¬ B.length ≠ 13 ∧ deep (a8 B).ax (a8 B).dep ∧ ¬ 0 < B.getD 10 0 + B.getD 11 0 ∧ ¬ 1 < B.getD 12 0 ∧ ¬ (a8 B).w = 0 ∧ ¬ (a8 B).h = 0 ∧ ¬ bR (a8 B).w (a8 B).h ≠ 0 ∧ fc B = 0) := by
  unfold fc
  by_cases h0 : B.length ≠ 13
  · exact .inl ⟨h0, if_pos h0⟩
  refine .inr ?_
  rw [if_neg h0]
  by_cases h1 : deep (a8 B).ax (a8 B).dep
  case neg => exact .inl ⟨h0, h1, if_pos (.inl h1)⟩
  refine .inr ?_
  by_cases h2 : 0 < B.getD 10 0 + B.getD 11 0
  · exact .inl ⟨h0, h1, h2, if_pos (.inr (.inl h2))⟩
  refine .inr ?_
  by_cases h3 : 1 < B.getD 12 0
  · exact .inl ⟨h0, h1, h2, h3, if_pos (.inr (.inr (.inl h3)))⟩
  refine .inr ?_
  by_cases h4 : (a8 B).w = 0
  · exact .inl ⟨h0, h1, h2, h3, h4, if_pos (.inr (.inr (.inr (.inl h4))))⟩
  refine .inr ?_
  by_cases h5 : (a8 B).h = 0
  · exact .inl ⟨h0, h1, h2, h3, h4, h5, if_pos (.inr (.inr (.inr (.inr h5))))⟩
  refine .inr ?_
  rw [if_neg (fun h => by
    rcases h with h | h | h | h | h
    · exact h h1
    · exact h2 h
    · exact h3 h
    · exact h4 h
    · exact h5 h)]
  by_cases h6 : bR (a8 B).w (a8 B).h = 0
  · exact .inr ⟨h0, h1, h2, h3, h4, h5, fun h => h h6, if_pos h6⟩
  · exact .inl ⟨h0, h1, h2, h3, h4, h5, h6, if_neg h6⟩
def Py (c d : Int) : Prop := if c = 0 then d = 1 ∨ d = 2 ∨ d = 4 ∨ d = 8 ∨ d = 16 else if c = 2 ∨ c = 4 ∨ c = 6 then d = 8 ∨ d = 16 else if c = 3 then d = 1 ∨ d = 2 ∨ d = 4 ∨ d = 8 else d = 8
instance (c d : Int) : Decidable (Py c d) := by unfold Py; infer_instance
theorem Hn {L : List Int} {c : Ch} (hL : au L) (h : first L = .ok c) : au c.k ∧ c.k.length < 500000000 := by
  unfold first at h
  split at h
  · cases h
  · split at h
    · cases h
    · split at h
      · cases h
      · split at h
        · cases h
          exact ⟨fun x hx => hL x (List.mem_of_mem_drop (List.mem_of_mem_take hx)), by simp only [List.length_take]; omega⟩
        · cases h
theorem DF : ∀ {f : Nat} {L : List Int} {a l : List Ch}, au L → (∀ c ∈ a, au c.k ∧ c.k.length < 500000000) → gy f L a = .ok l → ∀ c ∈ l, au c.k ∧ c.k.length < 500000000
  | 0, L, a, l, _, _, h => by cases h
  | f + 1, L, a, l, hL, ha, h => by
    rw [gy] at h
    split at h
    · cases h
    · rename_i c hc
      have hd := Hn hL hc
      have ha2 : ∀ y ∈ a ++ [c], au y.k ∧ y.k.length < 500000000 := fun y hy => by
        rcases List.mem_append.1 hy with hy | hy
        · exact ha y hy
        · rw [List.mem_singleton.1 hy]; exact hd
      split at h
      · split at h
        · cases h; exact ha2
        · cases h
      · exact DF (fun x hx => hL x (List.mem_of_mem_drop hx)) ha2 h
theorem N9 {B : List Int} {l : List Ch} (hB : au B) (h : cut B = .ok l) : ∀ c ∈ l, au c.k ∧ c.k.length < 500000000 := by
  unfold cut at h
  split at h
  · cases h
  · split at h
    · cases h
    · split at h
      · exact DF (fun x hx => hB x (List.mem_of_mem_drop hx)) (fun c hc => by cases hc) h
      · cases h
def j0 (l : List Ch) : Nat := (l.map (·.d.length)).sum
theorem Fk (a : List Ch) (c : Ch) : j0 (a ++ [c]) = j0 a + c.d.length := by simp [j0]
theorem E8 {L : List Int} {c : Ch} (h : first L = .ok c) : 12 + c.d.length ≤ L.length := by
  unfold first at h
  split at h
  · cases h
  · rename_i h12
    split at h
    · cases h
    · split at h
      · cases h
      · rename_i h3
        split at h
        · cases h
          simp only [List.length_take, List.length_drop]
          omega
        · cases h
theorem xE : ∀ {f : Nat} {L : List Int} {a l : List Ch}, gy f L a = .ok l → j0 l ≤ j0 a + L.length
  | 0, L, a, l, h => by cases h
  | f + 1, L, a, l, h => by
    rw [gy] at h
    split at h
    · cases h
    · rename_i c hc
      have hd := E8 hc
      have hs := Fk a c
      split at h
      · split at h
        · cases h; omega
        · cases h
      · have := xE h
        rw [List.length_drop] at this
        omega
theorem uu {B : List Int} {l : List Ch} (h : cut B = .ok l) : j0 l ≤ B.length := by
  unfold cut at h
  split at h
  · cases h
  · split at h
    · cases h
    · split at h
      · have := xE h
        rw [List.length_drop] at this
        have e0 : j0 [] = 0 := rfl
        omega
      · cases h
theorem ox : ∀ l : List Ch, (c4 l).length ≤ j0 l
  | [] => by simp [c4, j0]
  | c :: l => by
    have ih := ox l
    unfold c4 at ih ⊢
    rw [List.filter_cons]
    have e : j0 (c :: l) = c.d.length + j0 l := by simp [j0]
    split
    · simp only [List.flatMap_cons, List.length_append]; omega
    · omega
theorem mQ {l : List Ch} {k : List Int} : (cm l k).length ≤ j0 l := by
  unfold cm
  split
  · rename_i c hc
    have hm := List.mem_of_find?_eq_some hc
    unfold j0
    clear hc
    induction l with
    | nil => cases hm
    | cons a l ih =>
      rw [List.map_cons, List.sum_cons]
      rcases List.mem_cons.1 hm with rfl | hm
      · omega
      · have := ih hm; omega
  · simp
end Go.aa
namespace Go.aa
open Go.aj Go.Sl
theorem RE {B : List Int} (h0 : ¬ B.length ≠ 13) :
    (¬ B.length ≠ 13 ∧ ¬ deep (a8 B).ax (a8 B).dep ∧ fc B = 4) ∨
    (¬ B.length ≠ 13 ∧ deep (a8 B).ax (a8 B).dep ∧ 0 < B.getD 10 0 + B.getD 11 0 ∧ fc B = 4) ∨
    (¬ B.length ≠ 13 ∧ deep (a8 B).ax (a8 B).dep ∧ ¬ 0 < B.getD 10 0 + B.getD 11 0 ∧ 1 < B.getD 12 0 ∧ fc B = 4) ∨
    (¬ B.length ≠ 13 ∧ deep (a8 B).ax (a8 B).dep ∧ ¬ 0 < B.getD 10 0 + B.getD 11 0 ∧ ¬ 1 < B.getD 12 0 ∧ (a8 B).w = 0 ∧ fc B = 4) ∨
    (¬ B.length ≠ 13 ∧ deep (a8 B).ax (a8 B).dep ∧ ¬ 0 < B.getD 10 0 + B.getD 11 0 ∧ ¬ 1 < B.getD 12 0 ∧ ¬ (a8 B).w = 0 ∧ (a8 B).h = 0 ∧ fc B = 4) ∨
    (¬ B.length ≠ 13 ∧ deep (a8 B).ax (a8 B).dep ∧ ¬ 0 < B.getD 10 0 + B.getD 11 0 ∧ ¬ 1 < B.getD 12 0 ∧ ¬ (a8 B).w = 0 ∧ ¬ (a8 B).h = 0 ∧ bR (a8 B).w (a8 B).h ≠ 0 ∧ fc B = 6) ∨
    (¬ B.length ≠ 13 ∧ deep (a8 B).ax (a8 B).dep ∧ ¬ 0 < B.getD 10 0 + B.getD 11 0 ∧ ¬ 1 < B.getD 12 0 ∧ ¬ (a8 B).w = 0 ∧ ¬ (a8 B).h = 0 ∧ ¬ bR (a8 B).w (a8 B).h ≠ 0 ∧ fc B = 0) := (zy B).resolve_left (fun h => h0 h.1)
theorem Be {x : Int} (h : 0 ≤ x ∧ x < 256) : IntKind.i64.wrap x = x := gF (by omega) (by omega)
theorem BM {B : List Int} (h : B.length ≠ 13) : fc B = 4 := by unfold fc; rw [if_pos h]
instance (w1 h1 : Int) (n1 : Nat) (w2 h2 : Int) (n2 : Nat) (L1 L2 : List Int) : Decidable (iY w1 h1 n1 w2 h2 n2 L1 L2) := by unfold iY; infer_instance
end Go.aa
namespace Go.aa
open Go.aj Go.Sl
def me (l : List Ch) (k : List Int) : List Int := l.foldl (fun d c => if c.k = k then c.d else d) []
theorem nz {L : List Ch} {i : Nat} {x : Ch} (h : L[i]? = some x) : L.take (i + 1) = L.take i ++ [x] := by
  rw [List.take_add_one, h]; rfl
theorem lk {L : List Ch} {i : Nat} {x : Ch} {k : List Int} (h : L[i]? = some x) : me (L.take (i + 1)) k = if x.k = k then x.d else me (L.take i) k := by
  rw [nz h]; simp [me]
theorem mB {L : List Ch} {i : Nat} {x : Ch} {k : List Int} (h : L[i]? = some x) : eQ (L.take (i + 1)) k = (eQ (L.take i) k || (x.k == k)) := by
  rw [nz h]; simp [eQ]
theorem tW {L : List Ch} {i : Nat} {x : Ch} (h : L[i]? = some x) : c4 (L.take (i + 1)) = if x.k = bQ then c4 (L.take i) ++ x.d else c4 (L.take i) := by
  rw [nz h]
  unfold c4
  rw [List.filter_append, List.flatMap_append, List.filter_cons, List.filter_nil]
  by_cases hk : x.k = bQ
  · simp [hk]
  · simp [hk]
theorem xO (L : List Ch) (i : Nat) : j0 (L.take i) ≤ j0 L := by
  conv => rhs; rw [← List.take_append_drop i L]
  unfold j0
  rw [List.map_append, List.sum_append]
  omega
theorem Gc : a7 ≠ bA := by decide
theorem JU : a7 ≠ bQ := by decide
theorem JL : bA ≠ bQ := by decide
def cnt (k : List Int) (l : List Ch) : Nat := (l.filter fun c => c.k == k).length
theorem vE (k : List Int) (c : Ch) (l : List Ch) : cnt k (c :: l) = (if c.k = k then 1 else 0) + cnt k l := by
  unfold cnt
  rw [List.filter_cons]
  by_cases h : c.k = k
  · simp [h]; omega
  · simp [h]
theorem vm {k : List Int} : ∀ {l : List Ch} {d : List Int}, cnt k l = 0 → l.foldl (fun d c => if c.k = k then c.d else d) d = d
  | [], d, _ => rfl
  | c :: l, d, h => by
    rw [vE] at h
    have hc : c.k ≠ k := fun e => by rw [if_pos e] at h; omega
    rw [List.foldl_cons, if_neg hc]
    exact vm (by omega)
theorem uz {k : List Int} : ∀ {l : List Ch}, cnt k l ≤ 1 → me l k = cm l k
  | [], _ => rfl
  | c :: l, h => by
    rw [vE] at h
    unfold me cm
    rw [List.foldl_cons, List.find?_cons]
    by_cases hc : c.k = k
    · rw [if_pos hc] at h ⊢
      rw [vm (by omega)]
      simp [hc]
    · rw [if_neg hc] at h ⊢
      have := uz (k := k) (l := l) (by omega)
      unfold me cm at this
      have hb : (c.k == k) = false := beq_false_of_ne hc
      simp only [hb, if_neg hc, this]
theorem Dr {n i : Nat} {prev : List Int} {c : Ch} {s s2 : Od} (h : eJ n i prev c s = some s2) : s2.iW = s.iW + (if c.k = a7 then 1 else 0) ∧ s2.gH = s.gH + (if c.k = bA then 1 else 0) := by
  have d1 : cS ≠ a7 := by decide
  have d2 : cS ≠ bA := by decide
  have d3 : bV ≠ a7 := by decide
  have d4 : bV ≠ bA := by decide
  have d5 : bQ ≠ a7 := by decide
  have d6 : bQ ≠ bA := by decide
  have d7 : a7 ≠ bA := by decide
  unfold eJ at h
  split at h
  · rename_i hk
    rw [hk, if_neg d1, if_neg d2]
    split at h
    · cases h
    · cases h; exact ⟨rfl, rfl⟩
  · split at h
    · rename_i hk
      rw [hk, if_neg d3, if_neg d4]
      split at h
      · cases h
      · cases h; exact ⟨rfl, rfl⟩
    · split at h
      · rename_i hk
        rw [hk, if_neg d5, if_neg d6]
        split at h
        · cases h
        · cases h; exact ⟨rfl, rfl⟩
      · split at h
        · rename_i hk
          rw [hk, if_pos rfl, if_neg d7]
          split at h
          · cases h
          · cases h; exact ⟨rfl, rfl⟩
        · rename_i hp
          split at h
          · rename_i hk
            rw [if_neg hp, if_pos hk]
            split at h
            · cases h
            · cases h; exact ⟨rfl, rfl⟩
          · rename_i hk
            rw [if_neg hp, if_neg hk]
            split at h
            · cases h
            · cases h; exact ⟨rfl, rfl⟩
theorem zT {n : Nat} : ∀ {l : List Ch} {i : Nat} {prev : List Int} {s : Od}, lI n i prev l s = true → s.iW + cnt a7 l ≤ 1 ∧ s.gH + cnt bA l ≤ 1
  | [], i, prev, s, h => by
    rw [lI] at h
    unfold rS at h
    simp only [Bool.and_eq_true, decide_eq_true_eq] at h
    exact ⟨h.1.2, h.2⟩
  | c :: l, i, prev, s, h => by
    rw [lI] at h
    split at h
    · cases h
    · rename_i s2 hs
      have ih := zT h
      obtain ⟨e1, e2⟩ := Dr hs
      rw [vE, vE]
      omega
theorem FC {l : List Ch} (h : dG l = true) : me l a7 = cm l a7 ∧ me l bA = cm l bA := by
  rw [← Jj] at h
  have := zT h
  exact ⟨uz (by omega), uz (by omega)⟩
theorem vJ {l : List Ch} (h : dG l = true) : 3 ≤ l.length := by
  unfold dG at h
  simp only [Bool.and_eq_true, decide_eq_true_eq] at h
  exact h.1.1.1.1.1
theorem wg {k : List Int} : ∀ {L : List Ch} {i : Nat} {x : Ch}, L[i]? = some x → x.k = k → (∀ j, j < i → ∀ c, L[j]? = some c → c.k ≠ k) → cm L k = x.d ∧ eQ L k = true
  | [], i, x, h, _, _ => by simp at h
  | c :: L, 0, x, h, hk, _ => by
    simp only [List.getElem?_cons_zero, Option.some.injEq] at h
    subst h
    simp [cm, eQ, hk]
  | c :: L, i + 1, x, h, hk, hall => by
    simp only [List.getElem?_cons_succ] at h
    have hc := hall 0 (by omega) c rfl
    have := wg h hk (fun j hj y hy => hall (j + 1) (by omega) y (by simpa using hy))
    unfold cm eQ at this ⊢
    have hb : (c.k == k) = false := beq_false_of_ne hc
    simp only [List.find?_cons, List.any_cons, hb, Bool.false_or, this]
    exact ⟨trivial, trivial⟩
theorem yi {k : List Int} : ∀ {L : List Ch}, (∀ j, j < L.length → ∀ c, L[j]? = some c → c.k ≠ k) → cm L k = [] ∧ eQ L k = false
  | [], _ => ⟨rfl, rfl⟩
  | c :: L, hall => by
    have hc := hall 0 (by simp) c rfl
    have := yi (k := k) (L := L) (fun j hj y hy => hall (j + 1) (by simp; omega) y (by simpa using hy))
    unfold cm eQ at this ⊢
    have hb : (c.k == k) = false := beq_false_of_ne hc
    simp only [List.find?_cons, List.any_cons, hb, Bool.false_or, this]
    exact ⟨trivial, trivial⟩
theorem og {k : List Int} {L : List Ch} (h : eQ L k = false) : cm L k = [] := by
  unfold eQ at h
  unfold cm
  have : L.find? (fun c => c.k == k) = none := by
    rw [List.find?_eq_none]
    intro c hc hk
    rw [List.any_eq_false] at h
    exact h c hc hk
  rw [this]
def jC (h : Hd) (plte : List Int) (has : Bool) : Prop := if has then ¬ (h.ax = 0 ∨ h.ax = 4) ∧ (h.ax = 3 → (plte.length : Int) / 3 ≤ 2 ^ h.dep.toNat) ∧ plte.length % 3 = 0 ∧ 0 < plte.length ∧ plte.length / 3 ≤ 256 else h.ax ≠ 3
def jK (h : Hd) (plte trns : List Int) (is : Bool) : Prop := is = true → (h.ax = 3 ∧ trns.length ≤ plte.length / 3) ∨ (h.ax = 0 ∧ trns.length = 2) ∨ (h.ax = 2 ∧ trns.length = 6)
instance (h : Hd) (plte : List Int) (has : Bool) : Decidable (jC h plte has) := by unfold jC; infer_instance
instance (h : Hd) (plte trns : List Int) (is : Bool) : Decidable (jK h plte trns is) := by unfold jK; infer_instance
theorem K3 (h : Hd) (plte : List Int) : jC h plte false ↔ h.ax ≠ 3 := Iff.rfl
theorem JF {h : Hd} {plte : List Int} {P : Int} (hP : P = 2 ^ h.dep.toNat) : (h.ax = 0 ∧ ¬ jC h plte true) ∨ (¬ h.ax = 0 ∧ h.ax = 4 ∧ ¬ jC h plte true) ∨
    (¬ h.ax = 0 ∧ ¬ h.ax = 4 ∧ h.ax = 3 ∧ P < (plte.length : Int) / 3 ∧ ¬ jC h plte true) ∨
    (¬ h.ax = 0 ∧ ¬ h.ax = 4 ∧ h.ax = 3 ∧ ¬ P < (plte.length : Int) / 3 ∧ (jC h plte true ↔ plte.length % 3 = 0 ∧ 0 < plte.length ∧ plte.length / 3 ≤ 256)) ∨
    (¬ h.ax = 0 ∧ ¬ h.ax = 4 ∧ ¬ h.ax = 3 ∧ (jC h plte true ↔ plte.length % 3 = 0 ∧ 0 < plte.length ∧ plte.length / 3 ≤ 256)) := by
  subst hP
  unfold jC
  simp only [if_true]
  by_cases h0 : h.ax = 0
  · exact .inl ⟨h0, fun hh => hh.1 (.inl h0)⟩
  · by_cases h4 : h.ax = 4
    · exact .inr (.inl ⟨h0, h4, fun hh => hh.1 (.inr h4)⟩)
    · by_cases h3 : h.ax = 3
      · by_cases hp : (2 : Int) ^ h.dep.toNat < (plte.length : Int) / 3
        · exact .inr (.inr (.inl ⟨h0, h4, h3, hp, fun hh => Int.not_lt.2 (hh.2.1 h3) hp⟩))
        · exact .inr (.inr (.inr (.inl ⟨h0, h4, h3, hp, ⟨fun hh => hh.2.2, fun hh => ⟨fun h => h.elim h0 h4, fun _ => Int.not_lt.1 hp, hh⟩⟩⟩)))
      · exact .inr (.inr (.inr (.inr ⟨h0, h4, h3, ⟨fun hh => hh.2.2, fun hh => ⟨fun h => h.elim h0 h4, fun h => absurd h h3, hh⟩⟩⟩)))
theorem Lc (n : Nat) : (¬ n % 3 = 0) ∨ (n % 3 = 0 ∧ ¬ 0 < n) ∨ (n % 3 = 0 ∧ 0 < n) := by omega
theorem JE (h : Hd) (plte trns : List Int) : jK h plte trns false := fun hh => by cases hh
theorem KV (h : Hd) (plte trns : List Int) : (h.ax = 3 ∧ (jK h plte trns true ↔ trns.length ≤ plte.length / 3)) ∨ (¬ h.ax = 3 ∧ h.ax = 0 ∧ ¬ trns.length = 2 ∧ ¬ jK h plte trns true) ∨ (¬ h.ax = 3 ∧ h.ax = 0 ∧ trns.length = 2 ∧ jK h plte trns true) ∨
    (¬ h.ax = 3 ∧ ¬ h.ax = 0 ∧ h.ax = 2 ∧ ¬ trns.length = 6 ∧ ¬ jK h plte trns true) ∨ (¬ h.ax = 3 ∧ ¬ h.ax = 0 ∧ h.ax = 2 ∧ trns.length = 6 ∧ jK h plte trns true) ∨ (¬ h.ax = 3 ∧ ¬ h.ax = 0 ∧ ¬ h.ax = 2 ∧ ¬ jK h plte trns true) := by
  unfold jK
  simp only [true_implies]
  omega
theorem Jp {x P : Int} {d : Int} (hP : P = 2 ^ d.toNat) (hd : jH d) (hx : 0 ≤ x ∧ x < 65536) : IntKind.i64.wrap ((BitVec.ofInt IntKind.i64.bits x &&& BitVec.ofInt IntKind.i64.bits (P - 1)).toNat : Int) = x % P := by
  obtain ⟨n, rfl⟩ : ∃ n : Nat, x = (n : Int) := ⟨x.toNat, by omega⟩
  subst hP
  have key : ∀ m : Nat, m ≤ 16 → IntKind.i64.wrap ((BitVec.ofInt IntKind.i64.bits (n : Int) &&& BitVec.ofInt IntKind.i64.bits (2 ^ m - 1)).toNat : Int) = (n : Int) % 2 ^ m := by
    intro m hm
    have e : IntKind.i64.bits = 64 := rfl
    have hp : (2 : Nat) ^ m ≤ 2 ^ 16 := Nat.pow_le_pow_right (by decide) hm
    have hp1 : (1 : Nat) ≤ 2 ^ m := Nat.one_le_two_pow
    have e1 : BitVec.ofInt 64 ((2 : Int) ^ m - 1) = BitVec.ofNat 64 (2 ^ m - 1) := by
      rw [show (2 : Int) ^ m - 1 = ((2 ^ m - 1 : Nat) : Int) from by push_cast [hp1]; rfl, BitVec.ofInt_natCast]
    rw [e, BitVec.ofInt_natCast, e1, BitVec.toNat_and, BitVec.toNat_ofNat, BitVec.toNat_ofNat, Nat.mod_eq_of_lt (by omega), Nat.mod_eq_of_lt (by omega), Nat.and_two_pow_sub_one_eq_mod]
    have h2 : n % 2 ^ m ≤ n := Nat.mod_le ..
    rw [gF (by omega) (by omega)]
    simp
  exact key _ (by have := jR hd; omega)
theorem Om {h : Hd} {trns : List Int} (hc : h.ax = 0 ∨ h.ax = 2) (hl : trns.length / 2 = (parts h.ax).toNat) {i : Nat} (hi : i < (parts h.ax).toNat) : (bD h trns).take (i + 1) = (bD h trns).take i ++ [(trns.getD (2 * i) 0 * 256 + trns.getD (2 * i + 1) 0) % 2 ^ h.dep.toNat] ∧ (bD h trns).length = (parts h.ax).toNat := by
  unfold bD
  rw [if_pos hc]
  refine ⟨?_, by simp [hl]⟩
  rw [List.take_add_one]
  simp [hl, hi]
theorem Ii {h : Hd} {trns : List Int} (hc : h.ax = 0 ∨ h.ax = 2) (hl : trns.length / 2 = (parts h.ax).toNat) : (bD h trns).length = (parts h.ax).toNat := by
  unfold bD
  rw [if_pos hc]; simp [hl]
theorem NI {h : Hd} {trns : List Int} (hc : ¬ (h.ax = 0 ∨ h.ax = 2)) : bD h trns = [] := by unfold bD; rw [if_neg hc]
theorem IP (h : Hd) : bD h [] = [] := by unfold bD; split <;> rfl
end Go.aa
namespace Go.aa
open Go.aj Go.Sl
theorem Eg {B : List Int} (hB : au B) {k : Nat} : cZ B (16 * k) 16 = B.getD (2 * k) 0 * 256 + B.getD (2 * k + 1) 0 := by
  rw [show 16 * k = 8 * (2 * k) by omega, qV (hB.get _) (hB.get _)]
end Go.aa
namespace Go.aa
open Go.aj Go.Sl
def gw (f : Fl) : Prop := deep f.hd.ax f.hd.dep ∧ au f.plte ∧ au f.trns ∧ f.plte.length < 500000000 ∧ f.trns.length < 500000000 ∧ (f.hd.ax = 0 → f.trns.length = 0 ∨ f.trns.length = 2) ∧ (f.hd.ax = 2 → f.trns.length = 0 ∨ f.trns.length = 6) ∧ (f.hd.ax = 4 ∨ f.hd.ax = 6 → f.trns = []) ∧ (f.hd.ax = 3 → f.plte.length % 3 = 0)
theorem ij {c d : Int} (h : deep c d) : (c = 0 ∧ parts c = 1) ∨ (c = 2 ∧ parts c = 3) ∨ (c = 3 ∧ parts c = 1) ∨ (c = 4 ∧ parts c = 2) ∨ (c = 6 ∧ parts c = 4) := by
  have hp := tl c
  unfold deep at h
  omega
def xp (pl tr : List Int) (k : Nat) : Option (List Int) := if pl.length / 3 ≤ k then none else some [(pl.drop (3 * k)).getD 0 0 * 257, (pl.drop (3 * k)).getD 1 0 * 257, (pl.drop (3 * k)).getD 2 0 * 257, if k < tr.length then tr.getD k 0 * 257 else 65535]
def qD (f : Fl) (v : List Int) : Int := if 0 < (bD f.hd f.trns).length ∧ v = bD f.hd f.trns then 0 else if f.hd.ax = 4 ∨ f.hd.ax = 6 then (v.map (up f.hd.dep)).getD ((v.map (up f.hd.dep)).length - 1) 0 else 65535
theorem xD {f : Fl} {v : List Int} (h : f.hd.ax = 3) : jh f v = xp f.plte f.trns (v.getD 0 0).toNat := by
  unfold jh xp
  rw [if_pos h]
  split
  · rfl
  · rw [gG, gG, gG]
    rfl
theorem td {f : Fl} {v : List Int} (h : ¬ f.hd.ax = 3) : jh f v = some (if f.hd.ax = 0 ∨ f.hd.ax = 4 then [(v.map (up f.hd.dep)).getD 0 0, (v.map (up f.hd.dep)).getD 0 0, (v.map (up f.hd.dep)).getD 0 0, qD f v] else [(v.map (up f.hd.dep)).getD 0 0, (v.map (up f.hd.dep)).getD 1 0, (v.map (up f.hd.dep)).getD 2 0, qD f v]) := by
  unfold jh qD
  rw [if_neg h]
  show (if f.hd.ax = 0 ∨ f.hd.ax = 4 then _ else _) = _
  split <;> rfl
theorem zp {f : Fl} {v : List Int} (h : f.hd.ax = 0 ∨ f.hd.ax = 4) : jh f v = some [(v.map (up f.hd.dep)).getD 0 0, (v.map (up f.hd.dep)).getD 0 0, (v.map (up f.hd.dep)).getD 0 0, qD f v] := by rw [td (by omega), if_pos h]
theorem I4 {f : Fl} {v : List Int} (h : ¬ (f.hd.ax = 0 ∨ f.hd.ax = 4)) (h3 : ¬ f.hd.ax = 3) : jh f v = some [(v.map (up f.hd.dep)).getD 0 0, (v.map (up f.hd.dep)).getD 1 0, (v.map (up f.hd.dep)).getD 2 0, qD f v] := by rw [td h3, if_neg h]
theorem Ka {pl tr : List Int} {k : Nat} (h : pl.length / 3 ≤ k) : xp pl tr k = none := if_pos h
theorem C1 {pl tr : List Int} {k : Nat} (h : ¬ pl.length / 3 ≤ k) : xp pl tr k = some [(pl.drop (3 * k)).getD 0 0 * 257, (pl.drop (3 * k)).getD 1 0 * 257, (pl.drop (3 * k)).getD 2 0 * 257, if k < tr.length then tr.getD k 0 * 257 else 65535] := if_neg h
theorem A5 {v : List Int} {d : Int} {i : Nat} (h : i < v.length) : (v.map (up d)).take i ++ [up d (v.getD i 0)] = (v.map (up d)).take (i + 1) := by
  rw [List.take_add_one]
  simp [h, List.getD_eq_getElem?_getD]
def sm (h : Hd) (row : List Int) (x i : Nat) : Int := cZ row (x * (parts h.ax).toNat * h.dep.toNat + i * h.dep.toNat) h.dep.toNat
theorem lR (h : Hd) (row : List Int) (x : Nat) : (fE h row x).length = (parts h.ax).toNat := by simp [fE]
theorem IU {h : Hd} {row : List Int} {x i : Nat} (hi : i < (parts h.ax).toNat) : (fE h row x).getD i 0 = sm h row x i := by simp [fE, sm, hi, List.getD_eq_getElem?_getD]
theorem uq {h : Hd} {row : List Int} {x : Nat} : ∀ y ∈ fE h row x, 0 ≤ y ∧ y < 2 ^ h.dep.toNat := fun y hy => by
  unfold fE at hy
  obtain ⟨i, _, rfl⟩ := List.mem_map.1 hy
  exact mK _ _ _
def SA (S : List Int) (i : Nat) : List Int := S.take i ++ List.replicate (4 - i) 0
def ky (h : Hd) (tr S : List Int) (i : Nat) : Bool := decide (0 < tr.length) && (List.range i).all fun j => decide ((tr.getD (2 * j) 0 * 256 + tr.getD (2 * j + 1) 0) % 2 ^ h.dep.toNat = S.getD j 0)
theorem H6 {w bits : Int} {x : Nat} {n : Nat} (hx : (x : Int) < w) (hb : 0 ≤ bits) (hn : (n : Int) = fk w bits) : (x : Int) * bits + bits ≤ 8 * n := by
  rw [hn]
  unfold fk
  have h1 : ((x : Int) + 1) * bits ≤ w * bits := Int.mul_le_mul_of_nonneg_right (by omega) hb
  rw [Int.add_mul, Int.one_mul] at h1
  omega
end Go.aa
namespace Go.aa
open Go.aj Go.Sl
theorem jk {l : List Int} {i : Nat} (h : i < l.length) : l.getD i 0 ∈ l := by
  rw [List.getD_eq_getElem?_getD, List.getElem?_eq_getElem h]
  exact List.getElem_mem h
theorem vP {a b c d a' b' c' d' : Int} (h : some [a, b, c, d] = some [a', b', c', d']) : a = a' ∧ b = b' ∧ c = c' ∧ d = d' := by
  simpa using h
theorem tf (b : Bool) : b = true ∨ b = false := by cases b <;> simp
end Go.aa
namespace Go.aa
open Go.aj Go.Sl
theorem IQ (f : Fl) (v : List Int) : jh f v = none ∨ ∃ a b c d, jh f v = some [a, b, c, d] := by
  by_cases h3 : f.hd.ax = 3
  · rw [xD h3]
    unfold xp
    split
    · exact .inl rfl
    · exact .inr ⟨_, _, _, _, rfl⟩
  · rw [td h3]
    split
    · exact .inr ⟨_, _, _, _, rfl⟩
    · exact .inr ⟨_, _, _, _, rfl⟩
def vN (S old : List Int) (k : Nat) : List Int := S.take k ++ old.drop k
theorem QD (S old : List Int) : vN S old 0 = old := rfl
theorem Mb {S old : List Int} {k : Nat} (h : S.length = old.length) (hk : k ≤ S.length) : (vN S old k).length = S.length := by simp [vN]; omega
theorem MG {S old : List Int} (h : S.length = old.length) : vN S old S.length = S := by
  unfold vN
  rw [List.take_length, List.drop_eq_nil_of_le (by omega), List.append_nil]
theorem QK {S old : List Int} {k : Nat} (h : S.length = old.length) (hk : k < S.length) : (vN S old k).set k (S.getD k 0) = vN S old (k + 1) := by
  unfold vN
  have hl : (S.take k).length = k := by rw [List.length_take]; omega
  rw [List.drop_eq_getElem_cons (show k < old.length by omega), yK hl, List.take_add_one, List.append_assoc]
  congr 1
  simp [hk, List.getD_eq_getElem?_getD]
theorem QJ {h : Hd} {row old : List Int} {x N D k : Nat} (hN : N = (parts h.ax).toNat) (hD : D = h.dep.toNat) (ho : old.length = N) (hk : k < N) : (vN (fE h row x) old k).set ((k : Int)).toNat (cZ row (x * N * D + k * D) D) = vN (fE h row x) old (k + 1) := by
  subst hN; subst hD
  have e := IU (h := h) (row := row) (x := x) hk
  unfold sm at e
  rw [← e, show ((k : Int)).toNat = k from rfl]
  exact QK (by rw [lR, ho]) (by rw [lR]; exact hk)
def kZ (p : Ps) (w h : Int) : Prop := j6 p ∧ (∀ k : Int, 0 ≤ k → k < p.w → p.x + k * p.dx < w) ∧ ∀ k : Int, 0 ≤ k → k < p.h → p.y + k * p.dy < h
theorem J0 {x y dx dy w h : Int} (hx : 0 ≤ x ∧ x ≤ 8) (hy : 0 ≤ y ∧ y ≤ 8) (hdx : dx = 1 ∨ dx = 2 ∨ dx = 4 ∨ dx = 8) (hdy : dy = 1 ∨ dy = 2 ∨ dy = 4 ∨ dy = 8) (hw : 0 ≤ w ∧ w ≤ 256) (hh : 0 ≤ h ∧ h ≤ 256) : kZ (uc x y dx dy w h) w h :=
  ⟨CC hx hy hdx hdy hw hh, fun k h0 hk => (yG hdx h0).2 hk, fun k h0 hk => (yG hdy h0).2 hk⟩
theorem vD {w h : Int} (hw : 0 ≤ w ∧ w ≤ 256) (hh : 0 ≤ h ∧ h ≤ 256) : ∀ p ∈ gq w h, kZ p w h := fun p hp => by
  have hm := (List.mem_filter.1 hp).1
  unfold jj at hm
  simp only [List.mem_cons, List.not_mem_nil, or_false] at hm
  rcases hm with rfl | rfl | rfl | rfl | rfl | rfl | rfl <;> exact J0 (by decide) (by decide) (by decide) (by decide) hw hh
theorem w6 {w h : Int} (hw : 0 ≤ w ∧ w ≤ 256) (hh : 0 ≤ h ∧ h ≤ 256) : ∀ p ∈ whole w h, kZ p w h := fun p hp => by
  have := (wk hw hh).1 p hp
  unfold whole at hp
  rw [List.mem_singleton.1 hp] at this ⊢
  exact ⟨this, fun k h0 hk => by show 0 + k * 1 < w; have : k < w := hk; omega, fun k h0 hk => by show 0 + k * 1 < h; have : k < h := hk; omega⟩
section
variable {f : Fl} {p : Ps} {y : Int} {row : List Int} {i : Nat} {P : List Int} {r : Option (List Int)}
theorem JV (hi : (i : Int) < p.w) (hpx : jh f (fE f.hd row i) = none) (h : gO f p y row (p.w.toNat - i) i P = r) : r = none := by
  rw [show p.w.toNat - i = (p.w.toNat - (i + 1)) + 1 by omega, gO, hpx] at h
  exact h.symm
theorem MU {c : List Int} (hi : (i : Int) < p.w) (hpx : jh f (fE f.hd row i) = some c) (h : gO f p y row (p.w.toNat - i) i P = r) : gO f p y row (p.w.toNat - (i + 1)) (i + 1) (l8 f.hd.w P (p.x + i * p.dx) (p.y + y * p.dy) c) = r := by
  rw [show p.w.toNat - i = (p.w.toNat - (i + 1)) + 1 by omega, gO, hpx] at h
  exact h
theorem M8 (hi : ¬ (i : Int) < p.w) (h : gO f p y row (p.w.toNat - i) i P = r) : r = some P := by
  rw [show p.w.toNat - i = 0 by omega, gO] at h
  exact h.symm
end
section
variable {f : Fl} {D : List Int} {n back : Nat} {p : Ps} {y a : Nat} {A P : List Int} {r : Option (Nat × List Int)}
theorem I5 (hy : (y : Int) < p.h) (hk : 4 < D.getD a 0) (h : fh f D n back p (p.h.toNat - y) y a A P = r) : r = none := by
  rw [show p.h.toNat - y = (p.h.toNat - (y + 1)) + 1 by omega, fh, if_pos hk] at h
  exact h.symm
theorem HT (hy : (y : Int) < p.h) (hk : ¬ 4 < D.getD a 0) (hr : gO f p y (gk (D.getD a 0) ((D.drop (a + 1)).take n) A back) p.w.toNat 0 P = none) (h : fh f D n back p (p.h.toNat - y) y a A P = r) : r = none := by
  rw [show p.h.toNat - y = (p.h.toNat - (y + 1)) + 1 by omega, fh, if_neg hk, hr] at h
  exact h.symm
theorem Ib {P2 : List Int} (hy : (y : Int) < p.h) (hk : ¬ 4 < D.getD a 0) (hr : gO f p y (gk (D.getD a 0) ((D.drop (a + 1)).take n) A back) p.w.toNat 0 P = some P2) (h : fh f D n back p (p.h.toNat - y) y a A P = r) : fh f D n back p (p.h.toNat - (y + 1)) (y + 1) (a + 1 + n) (gk (D.getD a 0) ((D.drop (a + 1)).take n) A back) P2 = r := by
  rw [show p.h.toNat - y = (p.h.toNat - (y + 1)) + 1 by omega, fh, if_neg hk, hr] at h
  exact h
theorem Ik (hy : ¬ (y : Int) < p.h) (h : fh f D n back p (p.h.toNat - y) y a A P = r) : r = some (a, P) := by
  rw [show p.h.toNat - y = 0 by omega, fh] at h
  exact h.symm
theorem OL (f : Fl) (D : List Int) (n back : Nat) (p : Ps) (y a : Nat) (A P : List Int) : 4 < D.getD a 0 ∨ (¬ 4 < D.getD a 0 ∧ gO f p y (gk (D.getD a 0) ((D.drop (a + 1)).take n) A back) p.w.toNat 0 P = none) ∨ (¬ 4 < D.getD a 0 ∧ ∃ P2, gO f p y (gk (D.getD a 0) ((D.drop (a + 1)).take n) A back) p.w.toNat 0 P = some P2) := by
  by_cases h : 4 < D.getD a 0
  · exact .inl h
  · cases hr : gO f p y (gk (D.getD a 0) ((D.drop (a + 1)).take n) A back) p.w.toNat 0 P with
    | none => exact .inr (.inl ⟨h, rfl⟩)
    | some P2 => exact .inr (.inr ⟨h, P2, rfl⟩)
end
theorem MW (x : Int) : (if 1 < x then x else 1) = max 1 x := by split <;> omega
theorem uL (kind : Int) (row above : List Int) (back : Nat) : au (gk kind row above back) := r8 kind row above back row.length
def nW (bits : Int) (l : List Ps) : Nat := (l.map fun p => p.h.toNat * (1 + (fk p.w bits).toNat)).sum
theorem CP (bits : Int) (p : Ps) (l : List Ps) : nW bits (p :: l) = p.h.toNat * (1 + (fk p.w bits).toNat) + nW bits l := by simp [nW]
theorem tD {bits : Int} (hb : 0 ≤ bits ∧ bits ≤ 64) : ∀ {l : List Ps}, (∀ p ∈ l, j6 p ∧ 0 < p.w) → (nW bits l : Int) = fW l bits
  | [], _ => rfl
  | p :: l, h => by
    have ih := tD hb (fun q hq => h q (List.mem_cons_of_mem _ hq))
    obtain ⟨ho, hw⟩ := h p (List.mem_cons_self ..)
    obtain ⟨_, _, _, _, _, _, hw0, hw1, hh0, hh1⟩ := ho
    have hr := oc ⟨hw0, hw1⟩ hb
    rw [CP]
    unfold fW at ih ⊢
    rw [List.map_cons, List.sum_cons, if_pos hw, ← ih]
    push_cast
    rw [Int.toNat_of_nonneg hh0, Int.toNat_of_nonneg hr.2.2.1]
theorem E5 {w h : Int} : ∀ p ∈ gq w h, 0 < p.w := fun p hp => by
  have := (List.mem_filter.1 hp).2
  simp only [Bool.and_eq_true, decide_eq_true_eq] at this
  exact this.1
theorem IL {w h : Int} (hw : 0 < w) : ∀ p ∈ whole w h, 0 < p.w := fun p hp => by
  unfold whole at hp
  rw [List.mem_singleton.1 hp]
  exact hw
end Go.aa
namespace Go.aa
open Go.aj Go.Sl
theorem iQ : au [] := fun x hx => by cases hx
theorem wv {h : Hd} {p : Ps} {nr : Nat} (hp : 0 ≤ parts h.ax) (hd : 0 ≤ h.dep) (hnr : (nr : Int) = fk p.w (parts h.ax * h.dep)) : ∀ i : Nat, (i : Int) < p.w → i * (parts h.ax).toNat * h.dep.toNat + (parts h.ax).toNat * h.dep.toNat ≤ 8 * nr := fun i hi => by
  have hb := H6 hi (Int.mul_nonneg hp hd) hnr
  have e1 : ((i * (parts h.ax).toNat * h.dep.toNat + (parts h.ax).toNat * h.dep.toNat : Nat) : Int) = (i : Int) * (parts h.ax * h.dep) + parts h.ax * h.dep := by
    push_cast
    rw [Int.toNat_of_nonneg hp, Int.toNat_of_nonneg hd, Int.mul_assoc]
  omega
end Go.aa
namespace Go.aa
open Go.aj Go.Sl
theorem kR {h : Hd} (hs : bR h.w h.h = 0) : (∀ p ∈ bb h, kZ p h.w h.h ∧ j6 p ∧ 0 < p.w) ∧ (bb h).length ≤ 7 := by
  have hsd := ke hs
  unfold bb
  cases h.cA with
  | true => exact ⟨fun p hp => ⟨vD (by omega) (by omega) p hp, (vD (by omega) (by omega) p hp).1, E5 p hp⟩, (BJ (by omega) (by omega)).2⟩
  | false => exact ⟨fun p hp => ⟨w6 (by omega) (by omega) p hp, (w6 (by omega) (by omega) p hp).1, IL (by omega) p hp⟩, (wk (by omega) (by omega)).2⟩
theorem A8 {h : Hd} (hl : h.cA = true) : gq h.w h.h = bb h := by unfold bb; rw [hl]; rfl
theorem AW {h : Hd} (hl : h.cA = false) : whole h.w h.h = bb h := by unfold bb; rw [hl]; rfl
def mj (f : Fl) (z : List Int × Int) : qQ × Int := if z.2 ≠ 0 then (ev, z.2) else if (z.1.length : Int) < want f.hd then (ev, 2) else match fG f z.1 (bb f.hd) 0 (k6 f.hd) with | none => (ev, 4) | some c5 => (⟨f.hd.w, f.hd.h, c5⟩, 0)
theorem QA (f : Fl) (z : List Int × Int) : (z.2 ≠ 0 ∧ mj f z = (ev, z.2)) ∨ (¬ z.2 ≠ 0 ∧ (z.1.length : Int) < want f.hd ∧ mj f z = (ev, 2)) ∨ (¬ z.2 ≠ 0 ∧ ¬ (z.1.length : Int) < want f.hd) := by
  by_cases h1 : z.2 ≠ 0
  · exact .inl ⟨h1, if_pos h1⟩
  · by_cases h2 : (z.1.length : Int) < want f.hd
    · exact .inr (.inl ⟨h1, h2, by unfold mj; rw [if_neg h1, if_pos h2]⟩)
    · exact .inr (.inr ⟨h1, h2⟩)
theorem G6 {f : Fl} {z : List Int × Int} (h1 : ¬ z.2 ≠ 0) (h2 : ¬ (z.1.length : Int) < want f.hd) (h : fG f z.1 (bb f.hd) 0 (k6 f.hd) = none) : mj f z = (ev, 4) := by unfold mj; rw [if_neg h1, if_neg h2, h]
theorem GA {f : Fl} {z : List Int × Int} {c5 : List Int} (h1 : ¬ z.2 ≠ 0) (h2 : ¬ (z.1.length : Int) < want f.hd) (h : fG f z.1 (bb f.hd) 0 (k6 f.hd) = some c5) : mj f z = (⟨f.hd.w, f.hd.h, c5⟩, 0) := by unfold mj; rw [if_neg h1, if_neg h2, h]
theorem Bj {h : Hd} (hs : bR h.w h.h = 0) (hd : deep h.ax h.dep) : (nW (bitsOf h) (bb h) : Int) = want h := by
  have hb := my hd
  exact tD ⟨by unfold bitsOf; omega, by unfold bitsOf; omega⟩ (fun p hp => ⟨((kR hs).1 p hp).2.1, ((kR hs).1 p hp).2.2⟩)
theorem HX {h : Hd} (hs : bR h.w h.h = 0) (hd : deep h.ax h.dep) : 0 ≤ want h ∧ want h < 500000000 := by
  have hb := my hd
  have h1 := vh (l := bb h) (bits := bitsOf h) ⟨by unfold bitsOf; omega, by unfold bitsOf; omega⟩ (fun p hp => ((kR hs).1 p hp).2.1)
  have h7 := (kR hs).2
  unfold want
  omega
theorem u4 {l : List Ps} {i : Nat} (h : i < l.length) : l.drop i = l.getD i ⟨0, 0, 0, 0, 0, 0⟩ :: l.drop (i + 1) := by
  rw [List.drop_eq_getElem_cons h, List.getD_eq_getElem?_getD, List.getElem?_eq_getElem h]
  rfl
def lN (h : Hd) (p : Ps) : Nat := (fk p.w (bitsOf h)).toNat
def nX (h : Hd) : Nat := (max 1 (bitsOf h / 8)).toNat
theorem zt {h : Hd} {p : Ps} (hp : j6 p) (hd : deep h.ax h.dep) : (lN h p : Int) = fk p.w (parts h.ax * h.dep) := by
  have hb := my hd
  obtain ⟨_, _, _, _, _, _, hw0, hw1, _, _⟩ := hp
  have := oc (w := p.w) (bits := parts h.ax * h.dep) ⟨hw0, hw1⟩ (by omega)
  exact Int.toNat_of_nonneg this.2.2.1
theorem zX (h : Hd) : (nX h : Int) = max 1 (parts h.ax * h.dep / 8) := Int.toNat_of_nonneg (by unfold bitsOf; omega)
section
variable {f : Fl} {D : List Int} {l : List Ps} {i a : Nat} {P : List Int} {x : Ps} {r : Option (List Int)}
theorem Mn (hi : i < l.length) (hx : x = l.getD i ⟨0, 0, 0, 0, 0, 0⟩) (hr : fh f D (lN f.hd x) (nX f.hd) x x.h.toNat 0 a [] P = none) (h : fG f D (l.drop i) a P = r) : r = none := by
  rw [u4 hi, ← hx, fG] at h
  unfold lN nX at hr
  rw [hr] at h
  exact h.symm
theorem JH {a2 : Nat} {P2 : List Int} (hi : i < l.length) (hx : x = l.getD i ⟨0, 0, 0, 0, 0, 0⟩) (hr : fh f D (lN f.hd x) (nX f.hd) x x.h.toNat 0 a [] P = some (a2, P2)) (h : fG f D (l.drop i) a P = r) : fG f D (l.drop (i + 1)) a2 P2 = r := by
  rw [u4 hi, ← hx, fG] at h
  unfold lN nX at hr
  rw [hr] at h
  exact h
theorem La (hi : ¬ i < l.length) (h : fG f D (l.drop i) a P = r) : r = some P := by
  rw [List.drop_eq_nil_of_le (by omega), fG] at h
  exact h.symm
theorem KQ {bits : Int} (hi : i < l.length) (hx : x = l.getD i ⟨0, 0, 0, 0, 0, 0⟩) : nW bits (l.drop i) = x.h.toNat * (1 + (fk x.w bits).toNat) + nW bits (l.drop (i + 1)) := by rw [u4 hi, ← hx, CP]
theorem Qv (o : Option (Nat × List Int)) : o = none ∨ ∃ a P, o = some (a, P) := by
  match o with
  | none => exact .inl rfl
  | some (a, P) => exact .inr ⟨a, P, rfl⟩
end
inductive Rp (B : List Int) (r : qQ × Int) : Prop
  | cut (e : Int) (h : aa.cut B = .error e) (hr : r = (ev, e))
  | ord (l : List Ch) (h : aa.cut B = .ok l) (ho : dG l = false) (hr : r = (ev, 4))
  | head (l : List Ch) (h : aa.cut B = .ok l) (ho : dG l = true) (hh : fc (ei l) ≠ 0) (hr : r = (ev, fc (ei l)))
  | tab1 (l : List Ch) (h : aa.cut B = .ok l) (ho : dG l = true) (hh : fc (ei l) = 0) (ht : ¬ jC (a8 (ei l)) (cm l a7) (eQ l a7)) (hr : r = (ev, 4))
  | tab2 (l : List Ch) (h : aa.cut B = .ok l) (ho : dG l = true) (hh : fc (ei l) = 0) (ht : jC (a8 (ei l)) (cm l a7) (eQ l a7)) (hc : ¬ jK (a8 (ei l)) (cm l a7) (cm l bA) (eQ l bA)) (hr : r = (ev, 4))
  | open_ (l : List Ch) (z : List Int × Int) (h : aa.cut B = .ok l) (ho : dG l = true) (hh : fc (ei l) = 0) (ht : jC (a8 (ei l)) (cm l a7) (eQ l a7)) (hc : jK (a8 (ei l)) (cm l a7) (cm l bA) (eQ l bA)) (hz : aJ.m7 (c4 l) (want (a8 (ei l))) z) (hr : r = mj (pD l) z)
theorem kp.PU {B : List Int} {r : qQ × Int} (h : kp B r) : Rp B r := by
  rcases h.ways with ⟨e, h1, h2⟩ | ⟨l, h1, h2, h3⟩ | ⟨l, h1, h2, h3, h4⟩ | ⟨l, h1, h2, h3, h4, h5⟩ | ⟨l, q, h1, h2, h3, h4, h5, h6⟩
  · exact .cut e h1 h2
  · exact .ord l h1 h2 h3
  · exact .head l h1 h2 h3 h4
  · by_cases ha : jC (a8 (ei l)) (cm l a7) (eQ l a7)
    · exact .tab2 l h1 h2 h3 ha (fun q => h4 ⟨ha, q⟩) h5
    · exact .tab1 l h1 h2 h3 ha h5
  · refine .open_ l q h1 h2 h3 h4.1 h4.2 h5 ?_
    rcases h6 with ⟨a, b⟩ | ⟨a, b, c⟩ | ⟨a, b, c, d⟩ | ⟨c5, a, b, c, d⟩
    · rw [b]; unfold mj; rw [if_pos a]
    · rw [c]; unfold mj; rw [if_neg (fun q => q a)]; exact (if_pos b).symm
    · rw [d]; exact (G6 (fun q => q a) (by show ¬ _ < want (a8 (ei l)); omega) c).symm
    · rw [d]; exact (GA (f := pD l) (fun q => q a) (by show ¬ _ < want (a8 (ei l)); omega) c).symm
theorem sA {B : List Int} (h : fc B = 0) : deep (a8 B).ax (a8 B).dep ∧ bR (a8 B).w (a8 B).h = 0 := by
  rcases zy B with ⟨_, e⟩ | ⟨_, _, e⟩ | ⟨_, _, _, e⟩ | ⟨_, _, _, _, e⟩ | ⟨_, _, _, _, _, e⟩ | ⟨_, _, _, _, _, _, e⟩ | ⟨_, _, _, _, _, _, _, e⟩ | ⟨_, h1, _, _, _, _, h2, _⟩
  all_goals first | (rw [h] at e; exact absurd e (by decide)) | exact ⟨h1, Classical.not_not.1 h2⟩
theorem I9 {h : Hd} {pl tr : List Int} {has is : Bool} (hd : deep h.ax h.dep) (hB : au pl) (hBt : au tr) (hpl : pl.length < 500000000) (htl : tr.length < 500000000) (ha : jC h pl has) (hc : jK h pl tr is) (h0 : has = false → pl = []) (h1 : is = false → tr = []) : gw ⟨h, pl, tr⟩ := by
  refine ⟨hd, hB, hBt, hpl, htl, fun q => ?_, fun q => ?_, fun q => ?_, fun q => ?_⟩
  all_goals have q : _ := q
  · cases is with
    | false => exact .inl (by rw [h1 rfl]; rfl)
    | true => have := hc rfl; have q : h.ax = 0 := q; show tr.length = 0 ∨ tr.length = 2; omega
  · cases is with
    | false => exact .inl (by rw [h1 rfl]; rfl)
    | true => have := hc rfl; have q : h.ax = 2 := q; show tr.length = 0 ∨ tr.length = 6; omega
  · cases is with
    | false => exact h1 rfl
    | true => have := hc rfl; have q : h.ax = 4 ∨ h.ax = 6 := q; omega
  · have q : h.ax = 3 := q
    cases has with
    | false => exact absurd q ha
    | true => exact ha.2.2.1
theorem H8 (h : Hd) : fW (bb h) (parts h.ax * h.dep) = want h := rfl
theorem EJ {l : List Ps} {i : Nat} (h : i < l.length) : l.getD i ⟨0, 0, 0, 0, 0, 0⟩ ∈ l := by
  rw [List.getD_eq_getElem?_getD, List.getElem?_eq_getElem h]
  exact List.getElem_mem h
theorem Jx {B : List Int} {mo : Int} {q : List Int × Int} (hB : au B) (hm : mo < 500000000) (h : aJ.m7 B mo q) : au q.1 ∧ q.1.length < 500000000 := by
  rcases h.ways hB hm with ⟨_, rfl⟩ | ⟨_, _, rfl⟩ | ⟨e, _, _, _, _, rfl⟩ | ⟨x, n, _, _, _, _, _, _, _, rfl⟩ | ⟨x, n, _, _, _, _, _, _, _, rfl⟩ | ⟨x, n, _, _, _, _, _, _, _, _, rfl⟩ | ⟨x, n, _, _, _, h1, h2, _, _, _, rfl⟩
  · exact ⟨iQ, Nat.zero_lt_succ _⟩
  · exact ⟨iQ, Nat.zero_lt_succ _⟩
  · exact ⟨iQ, Nat.zero_lt_succ _⟩
  · exact ⟨iQ, Nat.zero_lt_succ _⟩
  · exact ⟨iQ, Nat.zero_lt_succ _⟩
  · exact ⟨iQ, Nat.zero_lt_succ _⟩
  · exact ⟨h1, h2⟩
end Go.aa
namespace Go.aa
open Go.aj Go.Sl
theorem FD {L : List Int} {e : Int} (h : first L = .error e) : e ≠ 0 := by
  unfold first at h
  split at h
  · cases h; decide
  · split at h
    · cases h; decide
    · split at h
      · cases h; decide
      · split at h
        · cases h
        · cases h; decide
theorem zl : ∀ {f : Nat} {L : List Int} {a : List Ch} {e : Int}, gy f L a = .error e → e ≠ 0
  | 0, L, a, e, h => by rw [gy] at h; cases h; decide
  | f + 1, L, a, e, h => by
    rw [gy] at h
    split at h
    · rename_i e' he; cases h; exact FD he
    · split at h
      · split at h
        · cases h
        · cases h; decide
      · exact zl h
theorem L8 {B : List Int} {e : Int} (h : cut B = .error e) : e ≠ 0 := by
  unfold cut at h
  split at h
  · cases h; decide
  · split at h
    · cases h; decide
    · split at h
      · exact zl h
      · cases h; decide
theorem lU {l : List Ch} (h : ∀ c ∈ l, au c.d) (k : List Int) : au (cm l k) := by
  unfold cm
  split
  · rename_i c hc; exact h c (List.mem_of_find?_eq_some hc)
  · exact iQ
theorem MQ {l : List Ch} {h : Hd} {P T : List Int} (h1 : h = a8 (ei l)) (h2 : P = cm l a7) (h3 : T = cm l bA) : pD l = ⟨h, P, T⟩ := by subst h1; subst h2; subst h3; rfl
end Go.aa
namespace Go.aa
open Go.aj Go.Sl
theorem Lm {L : List Ch} {i : Nat} {x : Ch} (h : L[i]? = some x) : cG (L.take (i + 1)) = cG (L.take i) ++ fS x := by
  rw [nz h]
  unfold cG iM
  rw [List.flatMap_append, List.append_assoc]
  simp
theorem join_le (L : List Ch) (i : Nat) : (cG (L.take i)).length ≤ (cG L).length := by
  conv => rhs; rw [← List.take_append_drop i L]
  unfold cG iM
  rw [List.flatMap_append]
  simp only [List.length_append]
  omega
theorem Kx (L : List Ch) : cG (L.take 0) = ff := by unfold cG iM; simp
theorem Nf {J k d : List Int} {n s : Int} (hn : n = (d.length : Int)) (hs : s = ic k d) : J ++ [n / 16777216 % 256, n / 65536 % 256, n / 256 % 256, n % 256] ++ k ++ d ++ [s / 16777216 % 256, s / 65536 % 256, s / 256 % 256, s % 256] = J ++ fS ⟨k, d⟩ := by
  subst hn; subst hs
  unfold fS ou
  simp only [List.append_assoc]
theorem D4 (x : Ch) : (fS x).length = 4 + x.k.length + x.d.length + 4 := by
  unfold fS
  simp only [List.length_append, zP]
  omega
theorem KH (P : List Int) (W y : Nat) : aR P W y ++ [0] ++ two ((P.drop (4 * W * y)).take (4 * W)) = aR P W (y + 1) := by
  rw [aR, jg, List.append_assoc]; rfl
theorem Oj {l : List Int} {i : Nat} (h : i < l.length) : two (l.take i) ++ [l.getD i 0 / 256, l.getD i 0 % 256] = two (l.take (i + 1)) := by
  rw [List.take_add_one]
  unfold two
  rw [List.flatMap_append]
  congr 1
  simp [h, List.getD_eq_getElem?_getD]
theorem HQ : kp [] (ev, 2) := by
  unfold kp cut
  rfl
theorem CV : Sz [0, 0, 7, 65535] 1 1 := ⟨by decide, by decide, by decide, rfl, fun x hx => by
  simp only [List.mem_cons, List.not_mem_nil, or_false] at hx
  rcases hx with rfl | rfl | rfl | rfl <;> decide⟩
end Go.aa
namespace Go.aa
open Go.aj Go.Sl
theorem xK {P : List Int} {W H y i : Nat} (hP : P.length = 4 * W * H) (hy : y < H) (hi : i < 4 * W) : ((P.drop (4 * W * y)).take (4 * W)).length = 4 * W ∧ ((P.drop (4 * W * y)).take (4 * W)).getD i 0 = P.getD (4 * W * y + i) 0 ∧ 4 * W * y + i < P.length := by
  have : 4 * W * (y + 1) ≤ 4 * W * H := Nat.mul_le_mul_left _ hy
  rw [Nat.mul_succ] at this
  refine ⟨by rw [List.length_take, List.length_drop]; omega, ?_, by omega⟩
  rw [List.getD_eq_getElem?_getD, List.getD_eq_getElem?_getD, List.getElem?_take, if_pos hi, List.getElem?_drop]
theorem uY {P : List Int} {W H y : Nat} (s : Sz P W H) (hy : y ≤ H) : (aR P W y).length ≤ 131328 := by
  obtain ⟨r, h⟩ := sf P W y (H - y)
  have h2 := lr s
  rw [show y + (H - y) = H by omega] at h
  rw [h, List.length_append] at h2
  omega
def iu (P : List Int) (W y i : Nat) : List Int := aR P W y ++ [0] ++ two (((P.drop (4 * W * y)).take (4 * W)).take i)
theorem sU (P : List Int) (W y : Nat) : aR P W y ++ [0] = iu P W y 0 := by unfold iu; simp [two]
theorem DI {P : List Int} {W H y i : Nat} (hP : P.length = 4 * W * H) (hy : y < H) (hi : i < 4 * W) : iu P W y i ++ [P.getD (4 * W * y + i) 0 / 256, P.getD (4 * W * y + i) 0 % 256] = iu P W y (i + 1) := by
  obtain ⟨h1, h2, _⟩ := xK hP hy hi
  unfold iu
  rw [← h2, List.append_assoc, Oj (by omega)]
theorem CG {P : List Int} {W H y : Nat} (hP : P.length = 4 * W * H) (hy : y < H) : iu P W y (4 * W) = aR P W (y + 1) := by
  unfold iu
  rw [List.take_of_length_le (Nat.le_trans (List.length_take_le _ _) (Nat.le_refl _))]
  exact KH P W y
theorem z7 {P : List Int} {W H y i : Nat} (s : Sz P W H) (hy : y ≤ H) (hi : i ≤ 4 * W) : (iu P W y i).length ≤ 140000 := by
  have h1 := uY s hy
  have h2 := s.w.2
  unfold iu
  simp only [List.length_append, zk, List.length_take, List.length_cons, List.length_nil]
  omega
theorem K7 {P : List Int} {W H : Nat} (s : Sz P W H) : P.length ≤ 65536 := by
  have h1 := s.len
  have h2 := s.wh
  rw [Nat.mul_assoc] at h1
  omega
def Good (r : qQ × Int) : Prop := (r.2 ≠ 0 ∧ r.1 = ev) ∨ (r.2 = 0 ∧ bR r.1.w r.1.h = 0 ∧ (r.1.c5.length : Int) = 4 * r.1.w * r.1.h)
end Go.aa
namespace Go.aa
open Go.aj Go.Sl
theorem OP {w h : Int} {L : List Int} (hs : bR w h = 0) (hn : (L.length : Int) = 4 * w * h) (hU : ot L) : ∃ W H : Nat, w = (W : Int) ∧ h = (H : Int) ∧ Sz L W H := by
  have hd := ke hs
  obtain ⟨W, rfl⟩ : ∃ W : Nat, w = (W : Int) := ⟨w.toNat, by omega⟩
  obtain ⟨H, rfl⟩ : ∃ H : Nat, h = (H : Int) := ⟨h.toNat, by omega⟩
  refine ⟨W, H, rfl, rfl, ⟨by omega, by omega, ?_, ?_, hU⟩⟩
  · have : ((W * H : Nat) : Int) ≤ 16384 := by rw [Int.natCast_mul]; exact hd.2.2.2.2.2
    omega
  · have : (L.length : Int) = ((4 * W * H : Nat) : Int) := by rw [hn, Int.natCast_mul, Int.natCast_mul]; rfl
    omega
end Go.aa
namespace Go.Sl
abbrev I3 : Ec Int := aP 3 .i64
abbrev qf : Ec (Int × Int) := ⟨279, 2, fun x => [.int .i64 x.1, .int .i64 x.2], (0, 0), fun _ => rfl, fun _ => rfl⟩
structure Cv where
  p1 : Option Addr
  c1 : Nat
  p2 : Option Addr
  c2 : Nat
def HC (b : Nat) (ls : List Int) : ad := fun w0 h => ∃ i : Cv, True ∧ dk w0 [ao b 275 (CA [.slice i.p1 ls.length i.c1] .i64 (af.cM ls) [.slice i.p2 (af.ord ls).length i.c2, .int .i64 (af.dj ls)]), Row qf i.p1 ls.length i.c1 (af.words ls), Row I3 i.p2 (af.ord ls).length i.c2 (af.ord ls)] h
theorem pf {b c1 c2 : Nat} {p1 p2 : Option Addr} {ls : List Int} {ws : List (Int × Int)} {w0 : World} {h : Hp} (e : ws = af.words ls)
    (hh : dk w0 [ao b 275 (CA [.slice p1 ls.length c1] .i64 (af.cM ls) [.slice p2 (af.ord ls).length c2, .int .i64 (af.dj ls)]), Row qf p1 ls.length c1 ws, Row I3 p2 (af.ord ls).length c2 (af.ord ls)] h) : HC b ls w0 h := by
  subst e; exact ⟨⟨p1, c1, p2, c2⟩, trivial, hh⟩
end Go.Sl
namespace Go.Sl
def RC (b : Nat) (ls : List Int) : ad := fun w0 h => ∃ i : Cv, True ∧ dk w0 [ao b 231 (CA [] .i64 (af.cM ls) [.slice i.p1 (af.ord ls).length i.c1, .slice i.p2 ls.length i.c2]), Row I3 i.p1 (af.ord ls).length i.c1 (af.ord ls), Row I3 i.p2 ls.length i.c2 ls] h
end Go.Sl
namespace Go.Sl
abbrev U5 : Ec Int := aP 5 .u8
structure Lv where
  p1 : Option Addr
  c1 : Nat
  p2 : Option Addr
  c2 : Nat
def LW (b : Nat) (B : List Int) (at_ : Nat) (out : List Int) (free : Int) : ad := fun w0 h => ∃ i : Lv, True ∧ dk w0 [ao b 236 [.slice i.p1 B.length i.c1, .slice i.p2 out.length i.c2, .int .i64 (at_ : Int), .int .i64 free], Row U5 i.p1 B.length i.c1 B, Row U5 i.p2 out.length i.c2 out] h
theorem o0 {b at_ : Nat} {p1 p2 : Option Addr} {c1 c2 : Nat} {B out : List Int} {free : Int} {w0 : World} {h : Hp}
    (hh : dk w0 [ao b 236 [.slice p1 B.length c1, .slice p2 out.length c2, .int .i64 (at_ : Int), .int .i64 free], Row U5 p1 B.length c1 B, Row U5 p2 out.length c2 out] h) : LW b B at_ out free w0 h := ⟨⟨p1, c1, p2, c2⟩, trivial, hh⟩
def WB (b : Nat) (bs : List Int) : ad := fun w0 h => ∃ i : List Int × Nat, (aj.Pk bs i.1 i.2 ∧ i.2 < 8) ∧ dk w0 [LW b [] 0 i.1 (i.2 : Int)] h
end Go.Sl
namespace Go.Sl
structure Mi where
  po : Option Addr
  co : Nat
def MS (b bl : Nat) (sz mo : Int) (li di : Value) (s : ab.St) : ad := fun w0 h => ∃ i : Mi, True ∧ dk w0 [ao b 223 [.pointer (some ⟨bl, 0, none⟩), .int .i64 sz, .int .i64 mo, .slice i.po s.out.length i.co, .bool s.ended, .int .i64 0, .int .i64 s.kind, .int .i64 (s.left : Int), .bool s.last, li, di, .int .i64 (s.aB : Int), .int .i64 (s.cE : Int)], Row U5 i.po s.out.length i.co s.out] h
theorem dz {b bl : Nat} {sz mo : Int} {li di : Value} {s : ab.St} {po : Option Addr} {co n : Nat} {w0 : World} {h : Hp} (hn : n = s.out.length)
    (hh : dk w0 [ao b 223 [.pointer (some ⟨bl, 0, none⟩), .int .i64 sz, .int .i64 mo, .slice po n co, .bool s.ended, .int .i64 0, .int .i64 s.kind, .int .i64 (s.left : Int), .bool s.last, li, di, .int .i64 (s.aB : Int), .int .i64 (s.cE : Int)], Row U5 po n co s.out] h) : MS b bl sz mo li di s w0 h := by
  subst hn; exact ⟨⟨po, co⟩, trivial, hh⟩
theorem iS {b bl : Nat} {sz mo : Int} {li di : Value} {s : ab.St} {w0 : World} {h : Hp} (hh : MS b bl sz mo li di s w0 h) : ∃ i : Mi, True ∧ dk w0 [ao b 223 [.pointer (some ⟨bl, 0, none⟩), .int .i64 sz, .int .i64 mo, .slice i.po s.out.length i.co, .bool s.ended, .int .i64 0, .int .i64 s.kind, .int .i64 (s.left : Int), .bool s.last, li, di, .int .i64 (s.aB : Int), .int .i64 (s.cE : Int)], Row U5 i.po s.out.length i.co s.out] h := hh
structure Vx where
  v3 : Value
  v4 : Value
  v5 : Value
  v6 : Value
  v7 : Value
  v8 : Value
  v9 : Value
  v10 : Value
  v11 : Value
  v12 : Value
def MX (b bl : Nat) (sz mo : Int) : ad := fun w0 h => ∃ i : Vx, True ∧ dk w0 [ao b 223 [.pointer (some ⟨bl, 0, none⟩), .int .i64 sz, .int .i64 mo, i.v3, i.v4, i.v5, i.v6, i.v7, i.v8, i.v9, i.v10, i.v11, i.v12]] h
theorem cU {b bl : Nat} {sz mo : Int} {v3 v4 v5 v6 v7 v8 v9 v10 v11 v12 : Value} {w0 : World} {h : Hp}
    (hh : dk w0 [ao b 223 [.pointer (some ⟨bl, 0, none⟩), .int .i64 sz, .int .i64 mo, v3, v4, v5, v6, v7, v8, v9, v10, v11, v12]] h) : MX b bl sz mo w0 h := ⟨⟨v3, v4, v5, v6, v7, v8, v9, v10, v11, v12⟩, trivial, hh⟩
def PE (e : Int) (ch : List PanicEntry) : Prop := (ch = ku 194 (.agg #[]) ∧ e = 2) ∨ (ch = ku 237 (.agg #[]) ∧ e = 4) ∨ (ch = ku 27 (.int .i64 e) ∧ e ≠ 0)
theorem PE.no {e : Int} (h : e ≠ 0) : PE e (ku 27 (.int .i64 e)) := .inr (.inr ⟨rfl, h⟩)
theorem PE.end_ : PE 2 (ku 194 (.agg #[])) := .inl ⟨rfl, rfl⟩
theorem PE.none_ : PE 4 (ku 237 (.agg #[])) := .inr (.inl ⟨rfl, rfl⟩)
def iF {α : Type} (E : Except Int α) (R : α → Value → List ad → Prop) (Gx : List ad) : Ending → List ad → Prop := sS (fun v G => ∃ x, E = .ok x ∧ R x v G) (fun ch G => ∃ e, E = .error e ∧ PE e ch ∧ G = Gx)
section
variable {P : Program} {f : FuncId} {args : List Value} {Pre Gx : List ad} {α : Type} {E : Except Int α} {R : α → Value → List ad → Prop}
theorem aG.ok {x : α} (h : aG P f args Pre (iF E R Gx)) (hE : E = .ok x) : aG P f args Pre (aQ (R x)) := h.mono fun e G h => by
  rcases h with ⟨v, rfl, x', h1, h2⟩ | ⟨ch, rfl, e', h1, _⟩
  · rw [hE] at h1; cases h1; exact ⟨v, rfl, h2⟩
  · rw [hE] at h1; cases h1
theorem aG.err {e : Int} (h : aG P f args Pre (iF E R Gx)) (hE : E = .error e) : aG P f args Pre (rG fun ch G => PE e ch ∧ G = Gx) := h.mono fun e' G h => by
  rcases h with ⟨v, rfl, x', h1, h2⟩ | ⟨ch, rfl, e', h1, h2⟩
  · rw [hE] at h1; cases h1
  · rw [hE] at h1; cases h1; exact ⟨ch, rfl, h2⟩
variable {C : Ctx} {Q : QT} {En : Env} {L F G : List ad} {rs : Array ResultVar} {v : Value} {ch : List PanicEntry}
theorem kN {x : α} (hE : E = .ok x) (hr : lu C rs En L v) (hR : R x v G) (hs : Sub L (G ++ F)) : oH C rs F (iF E R Gx) .ret En L := ⟨v, G, hr, .inl ⟨v, rfl, x, hE, hR⟩, hs⟩
theorem iw {x : α} (hE : E = .ok x) (hr : lu C rs En L v) (hR : R x v G) (hs : Sub L (G ++ F)) : oH C rs F (iF E R Gx) .normal En L := ⟨v, G, hr, .inl ⟨v, rfl, x, hE, hR⟩, hs⟩
theorem eA {e : Int} (hE : E = .error e) (hp : PE e ch) (hs : Sub L (Gx ++ F)) : oH C rs F (iF E R Gx) (.panic ch) En L := ⟨Gx, .inr ⟨ch, rfl, e, hE, hp, rfl⟩, hs⟩
theorem lA {e : Int} (hE : E = .error e) (hp : PE e ch) (hs : Sub L (Gx ++ F)) : ∃ G, iF E R Gx (.panicked ch) G ∧ Sub L (G ++ F) := ⟨Gx, .inr ⟨ch, rfl, e, hE, hp, rfl⟩, hs⟩
end
theorem vn {M F : List ad} : Drop (M ++ F) F := by
  induction M with
  | nil => exact .refl
  | cons a M ih => exact .skip ih
theorem xc {a0 : ad} {M F : List ad} : Drop (a0 :: (M ++ F)) F := .skip vn
end Go.Sl
namespace Go.Proofs.YtmaiakpjgomnpaaGreat
open Go.Sl
theorem V.a194 : ia Tryz.prog 194 = some 0 := by kernel_rfl
theorem V.a229 : ia Tryz.prog 229 = some 16 := by kernel_rfl
theorem V.QG : ia Tryz.prog 237 = some 0 := by kernel_rfl
theorem V.MR : ia Tryz.prog 246 = some 2 := by kernel_rfl
theorem V.QH : ia Tryz.prog 279 = some 2 := by kernel_rfl
theorem V.oN : jT Tryz.prog 229 = some (16, 3, 1) := by kernel_rfl
theorem V.AG : jT Tryz.prog 246 = some (2, 3, 1) := by kernel_rfl
theorem V.Kp : aH Tryz.prog 103 = true := by kernel_rfl
theorem V.Me : aH Tryz.prog 118 = true := by kernel_rfl
theorem V.Qp : aH Tryz.prog 119 = true := by kernel_rfl
theorem V.Ad : aH Tryz.prog 128 = true := by kernel_rfl
theorem V.P4 : aH Tryz.prog 135 = true := by kernel_rfl
theorem V.MP : aH Tryz.prog 145 = true := by kernel_rfl
theorem V.qM : aH Tryz.prog 146 = true := by kernel_rfl
theorem V.Qt : aH Tryz.prog 147 = true := by kernel_rfl
theorem V.LJ : aH Tryz.prog 148 = true := by kernel_rfl
theorem V.MH : aH Tryz.prog 149 = true := by kernel_rfl
theorem V.Nl : aH Tryz.prog 150 = true := by kernel_rfl
theorem V.QE : aH Tryz.prog 160 = true := by kernel_rfl
theorem V.Jy : aH Tryz.prog 166 = true := by kernel_rfl
theorem V.K8 : aH Tryz.prog 167 = true := by kernel_rfl
theorem V.Mz : aH Tryz.prog 168 = true := by kernel_rfl
theorem V.Lr : aH Tryz.prog 169 = true := by kernel_rfl
theorem V.Qm : aH Tryz.prog 170 = true := by kernel_rfl
theorem V.KZ : aH Tryz.prog 178 = true := by kernel_rfl
theorem V.uZ : aH Tryz.prog 179 = true := by kernel_rfl
theorem V.LV : aH Tryz.prog 180 = true := by kernel_rfl
theorem V.L9 : aH Tryz.prog 181 = true := by kernel_rfl
theorem V.Lt : aH Tryz.prog 182 = true := by kernel_rfl
theorem V.fm : aH Tryz.prog 183 = true := by kernel_rfl
theorem V.Kv : aH Tryz.prog 195 = true := by kernel_rfl
theorem V.iO : aH Tryz.prog 197 = true := by kernel_rfl
theorem V.Qe : aH Tryz.prog 198 = true := by kernel_rfl
theorem V.P8 : aH Tryz.prog 199 = true := by kernel_rfl
theorem V.MN : aH Tryz.prog 200 = true := by kernel_rfl
theorem V.sG : aH Tryz.prog 201 = true := by kernel_rfl
theorem V.KC : aH Tryz.prog 202 = true := by kernel_rfl
theorem V.Lq : aH Tryz.prog 203 = true := by kernel_rfl
theorem V.QI : aH Tryz.prog 204 = true := by kernel_rfl
theorem V.P5 : aH Tryz.prog 215 = true := by kernel_rfl
theorem V.QB : aH Tryz.prog 216 = true := by kernel_rfl
theorem V.Qf : aH Tryz.prog 217 = true := by kernel_rfl
theorem V.PM : aH Tryz.prog 218 = true := by kernel_rfl
theorem V.AJ : aH Tryz.prog 220 = true := by kernel_rfl
theorem V.oU : aH Tryz.prog 221 = true := by kernel_rfl
theorem V.Qw : aH Tryz.prog 222 = true := by kernel_rfl
theorem V.Ly : aH Tryz.prog 223 = true := by kernel_rfl
theorem V.Qz : aH Tryz.prog 229 = true := by kernel_rfl
theorem V.L7 : aH Tryz.prog 230 = true := by kernel_rfl
theorem V.MO : aH Tryz.prog 245 = true := by kernel_rfl
theorem V.AF : aH Tryz.prog 246 = true := by kernel_rfl
theorem V.Qn : aH Tryz.prog 253 = true := by kernel_rfl
theorem V.E4 : aH Tryz.prog 256 = true := by kernel_rfl
theorem V.RB : aH Tryz.prog 63 = true := by kernel_rfl
theorem V.ze : aH Tryz.prog 91 = true := by kernel_rfl
theorem V.Ks : aH Tryz.prog 92 = true := by kernel_rfl
theorem V.As : mN Tryz.prog 194 = true := by kernel_rfl
theorem V.DZ : mN Tryz.prog 237 = true := by kernel_rfl
theorem V.C9 : mN Tryz.prog 27 = true := by kernel_rfl
theorem V.CX : cy Tryz.prog 156 0 = some 0 := by kernel_rfl
theorem V.wA : cy Tryz.prog 156 2 = some 2 := by kernel_rfl
theorem V.eL : cy Tryz.prog 223 0 = some 0 := by kernel_rfl
theorem V.K5 : cy Tryz.prog 223 1 = some 1 := by kernel_rfl
theorem V.uw : cy Tryz.prog 223 10 = some 10 := by kernel_rfl
theorem V.QP : cy Tryz.prog 223 11 = some 11 := by kernel_rfl
theorem V.rn : cy Tryz.prog 223 12 = some 12 := by kernel_rfl
theorem V.DV : cy Tryz.prog 223 2 = some 2 := by kernel_rfl
theorem V.kP : cy Tryz.prog 223 3 = some 3 := by kernel_rfl
theorem V.wO : cy Tryz.prog 223 4 = some 4 := by kernel_rfl
theorem V.Kt : cy Tryz.prog 223 5 = some 5 := by kernel_rfl
theorem V.RO : cy Tryz.prog 223 6 = some 6 := by kernel_rfl
theorem V.QW : cy Tryz.prog 223 7 = some 7 := by kernel_rfl
theorem V.RN : cy Tryz.prog 223 8 = some 8 := by kernel_rfl
theorem V.xV : cy Tryz.prog 223 9 = some 9 := by kernel_rfl
theorem V.x8 : cy Tryz.prog 236 0 = some 0 := by kernel_rfl
theorem V.RA : cy Tryz.prog 275 0 = some 0 := by kernel_rfl
theorem V.wE : cy Tryz.prog 275 1 = some 1 := by kernel_rfl
theorem V.KL : cy Tryz.prog 275 2 = some 17 := by kernel_rfl
theorem V.RX : cy Tryz.prog 275 3 = some 18 := by kernel_rfl
theorem V.mixed : Tryz.prog.follows .mixedOrders = true := by kernel_rfl
theorem V.G1 : fO Tryz.prog 156 = some [(0, 1), (1, 1), (2, 1), (3, 1)] := by kernel_rfl
theorem V.N1 : fO Tryz.prog 194 = some [] := by kernel_rfl
theorem V.GY : fO Tryz.prog 223 = some [(0, 1), (1, 1), (2, 1), (3, 1), (4, 1), (5, 1), (6, 1), (7, 1), (8, 1), (9, 1), (10, 1), (11, 1), (12, 1)] := by kernel_rfl
theorem V.OH : fO Tryz.prog 236 = some [(0, 4)] := by kernel_rfl
theorem V.Ot : fO Tryz.prog 237 = some [] := by kernel_rfl
theorem V.NZ : fO Tryz.prog 275 = some [(0, 1), (1, 16), (17, 1), (18, 1)] := by kernel_rfl
theorem V.Ow : fO Tryz.prog 279 = some [(0, 1), (1, 1)] := by kernel_rfl
theorem V.gQ : dq Tryz.prog 204 = true := by kernel_rfl
theorem V.dV : dq Tryz.prog 219 = true := by kernel_rfl
theorem V.eC : dq Tryz.prog 22 = true := by kernel_rfl
theorem V.pS : dq Tryz.prog 221 = true := by kernel_rfl
theorem V.rJ : dq Tryz.prog 27 = true := by kernel_rfl
theorem V.PJ : dq Tryz.prog 273 = true := by kernel_rfl
theorem V.s3 : dq Tryz.prog 3 = true := by kernel_rfl
theorem V.s4 : dq Tryz.prog 4 = true := by kernel_rfl
theorem V.lg : dq Tryz.prog 47 = true := by kernel_rfl
theorem V.s5 : dq Tryz.prog 5 = true := by kernel_rfl
theorem V.bY : sliceB Tryz.prog 22 = some (5, 1, 1) := by kernel_rfl
theorem V.Gq : sliceB Tryz.prog 247 = some (246, 2, 16) := by kernel_rfl
theorem V.GJ : sliceB Tryz.prog 273 = some (279, 2, 16) := by kernel_rfl
theorem V.cT : sliceB Tryz.prog 47 = some (3, 1, 8) := by kernel_rfl
theorem V.u3 : ks Tryz.prog 3 = true := by kernel_rfl
theorem V.u5 : ks Tryz.prog 5 = true := by kernel_rfl
theorem V.Ge : ks Tryz.prog 52 = true := by kernel_rfl
theorem V.oh : ks Tryz.prog 76 = true := by kernel_rfl
theorem V.z156 : dH Tryz.prog 156 = some ([.slice none 0 0, .slice none 0 0, .int .i64 0, .int .i64 0]) := by kernel_rfl
theorem V.z194 : dH Tryz.prog 194 = some ([]) := by kernel_rfl
theorem V.JW : dH Tryz.prog 223 = some ([.pointer none, .int .i64 0, .int .i64 0, .slice none 0 0, .bool false, .int .i64 0, .int .i64 0, .int .i64 0, .bool false, .pointer none, .pointer none, .int .i64 0, .int .i64 0]) := by kernel_rfl
theorem V.z236 : dH Tryz.prog 236 = some ([.slice none 0 0, .slice none 0 0, .int .i64 0, .int .i64 0]) := by kernel_rfl
theorem V.LC : dH Tryz.prog 237 = some ([]) := by kernel_rfl
theorem V.EV : dH Tryz.prog 246 = some ([.int .i64 0, .int .i64 0]) := by kernel_rfl
theorem V.O8 : dH Tryz.prog 27 = some ([.int .i64 0]) := by kernel_rfl
theorem V.QL : dH Tryz.prog 275 = some ([.slice none 0 0, .int .i64 0, .int .i64 0, .int .i64 0, .int .i64 0, .int .i64 0, .int .i64 0, .int .i64 0, .int .i64 0, .int .i64 0, .int .i64 0, .int .i64 0, .int .i64 0, .int .i64 0, .int .i64 0, .int .i64 0, .int .i64 0, .slice none 0 0, .int .i64 0]) := by kernel_rfl
theorem V.ML : dH Tryz.prog 279 = some ([.int .i64 0, .int .i64 0]) := by kernel_rfl
theorem V.z3 : dH Tryz.prog 3 = some ([.int .i64 0]) := by kernel_rfl
theorem V.z5 : dH Tryz.prog 5 = some ([.int .u8 0]) := by kernel_rfl
end Go.Proofs.YtmaiakpjgomnpaaGreat
namespace Go.Proofs.YtmaiakpjgomnpaaGreat
open Go.Sl 
theorem aD : dU Tryz.prog ⟨[47], []⟩ = true := by kernel_rfl
theorem m8 (p : Option Addr) (n cap : Nat) (fv : Value) (P A B C Z : List Int) (a b k0 : Int) (ha : a = P.length) (hbb : b = (P.length + A.length + B.length : Nat)) (hk0 : k0 = A.length) (hC : C.length = A.length) (hn : P.length + A.length + B.length + A.length + Z.length = n) (hn2 : n ≤ 1000000) : aG Tryz.prog 256 [.slice p n cap, .int .i64 a, .int .i64 b, .int .i64 k0, fv] [Row I3 p n cap (P ++ A ++ B ++ C ++ Z)] (aQ fun v G => v = .tuple #[] ∧ G = [Row I3 p n cap (P ++ C ++ B ++ A ++ Z)]) := by
 refine av [(0, _), (1, _), (2, _), (3, _), (4, _)] Tryz.func256 rfl Tryz.ntmps256 rfl rfl ?_
 intro w0 F
 refine rT aD 6 rfl ?_
 rw [show P ++ A ++ B ++ C ++ Z = P ++ (C.take 0 ++ A.drop 0) ++ B ++ (A.take 0 ++ C.drop 0) ++ Z by simp]
 refine eb (fun (k : Nat) => [(0, .slice p n cap), (1, .int .i64 a), (2, .int .i64 b), (3, .int .i64 k0), (10, .int .i64 (k : Int))]) (fun (k : Nat) => Row I3 p n cap (P ++ (C.take k ++ A.drop k) ++ B ++ (A.take k ++ C.drop k) ++ Z) :: F) (fun (k : Nat) => k ≤ A.length) (fun (k : Nat) => A.length - k) (i1 (0) ?_ (dp ln) (sub (ar .nil) aw)) ?_
 ·exact Nat.zero_le _
 intro k
 rintro hk
 refine rL aD 8 rfl ?_
 refine aN rfl (fun h13 => ?_) (fun h13 => ?_)
 ·refine rC aD 4 rfl ?_
  refine wN [pz 0 [] [0], pz 0 [] [1], pz 0 [] [10], pz 6 [1, 2] [], pz 0 [] [0], pz 0 [] [2], pz 0 [] [10], pz 96 [5, 6] [], pz 0 [] [0], pz 0 [] [2], pz 0 [] [10], pz 1536 [9, 10] [], pz 3840 [8, 11] [], pz 7936 [12] [], pz 0 [] [0], pz 0 [] [1], pz 0 [] [10], pz 98304 [15, 16] [], pz 245760 [14, 17] [], pz 507904 [18] [], pz 1048335 [0, 3] [], pz 2096911 [20, 13] [], pz 4194303 [4, 7] [], pz 8388607 [22, 19] []] [⟨fun y => Row I3 p n cap (P ++ (C.take k ++ A.drop k) ++ B ++ (A.take k ++ C.drop k) ++ Z), none, some 21, [12, 13, 18, 19, 20]⟩, ⟨fun y => Row I3 p n cap ((P ++ (C.take k ++ A.drop k) ++ B ++ (A.take k ++ C.drop k) ++ Z).set (a + (k : Int)).toNat ((I3).g (P ++ (C.take k ++ A.drop k) ++ B ++ (A.take k ++ C.drop k) ++ Z) (b + (k : Int)))), some 21, some 23, [22]⟩, ⟨fun y => Row I3 p n cap (((P ++ (C.take k ++ A.drop k) ++ B ++ (A.take k ++ C.drop k) ++ Z).set (a + (k : Int)).toNat ((I3).g (P ++ (C.take k ++ A.drop k) ++ B ++ (A.take k ++ C.drop k) ++ Z) (b + (k : Int)))).set (b + (k : Int)).toNat ((I3).g (P ++ (C.take k ++ A.drop k) ++ B ++ (A.take k ++ C.drop k) ++ Z) (a + (k : Int)))), some 23, none, []⟩] F V.mixed ?_
  iterate 3 refine nM ?_
  refine nV (fun y hA L => du rfl rfl wI) ?_
  iterate 3 refine nM ?_
  refine nV (fun y hA L => du rfl rfl wI) ?_
  iterate 3 refine nM ?_
  refine nV (fun y hA L => du rfl rfl wI) ?_
  refine nR (fun y FF hA => xI V.cT (own an)) ?_
  refine nR (fun y FF hA => xL V.s3 (own an)) ?_
  iterate 3 refine nM ?_
  refine nV (fun y hA L => du rfl rfl wI) ?_
  refine nR (fun y FF hA => xI V.cT (own an)) ?_
  refine nR (fun y FF hA => xL V.s3 (own an)) ?_
  refine nR (fun y FF hA => xI V.cT (own an)) ?_
  refine nE (fun y FF hA => dC (gu (c := (I3)) (_) V.s3 rfl rfl rfl (by exact cY) (by omega) (by omega) rfl rfl) ⟨rfl, .refl _⟩) ?_
  refine nR (fun y FF hA => xI V.cT (own an)) ?_
  refine nE (fun y FF hA => dC (gu (c := (I3)) (_) V.s3 rfl rfl rfl (by exact cY) (by omega) (by omega) rfl rfl) ⟨rfl, .refl _⟩) ?_
  refine aX ?_
  intro y hA
  clear hA
  show lL _ _ _ _ (Row I3 p n cap (((P ++ (C.take k ++ A.drop k) ++ B ++ (A.take k ++ C.drop k) ++ Z).set (a + (k : Int)).toNat ((I3).g (P ++ (C.take k ++ A.drop k) ++ B ++ (A.take k ++ C.drop k) ++ Z) (b + (k : Int)))).set (b + (k : Int)).toNat ((I3).g (P ++ (C.take k ++ A.drop k) ++ B ++ (A.take k ++ C.drop k) ++ Z) (a + (k : Int)))) :: F)
  refine kC ?_
  refine bN ?_
  refine bK ?_
  refine oV (aK rfl) ?_
  refine oV (du rfl rfl wI) ?_
  refine oV (eZ rfl) ?_
  refine cW ?_
  have e1 : (a + (k : Int)).toNat = P.length + k := by omega
  have e2 : (b + (k : Int)).toNat = P.length + A.length + B.length + k := by omega
  simp only [Ec.g, e1, e2]
  rw [dv.yB (by omega) hC]
  refine j1 (k + 1) ?_ (dp ln) (sub (ar .nil) aw)
  exact ⟨by omega, by omega⟩
 ·refine rC aD 4 rfl ?_
  have hke : k = A.length := by omega
  subst hke
  rw [show P ++ (C.take A.length ++ A.drop A.length) ++ B ++ (A.take A.length ++ C.drop A.length) ++ Z = P ++ C ++ B ++ A ++ Z by rw [List.drop_length, List.take_length, ← hC, List.take_length, List.drop_length]; simp]
  exact jb fI ⟨rfl, rfl⟩ (sub (ar .nil) aw)
theorem BN (p : Option Addr) (n cap : Nat) (fv : Value) (P X Y Z : List Int) (a m b : Int) (ha : a = P.length) (hm : m = (P.length + X.length : Nat)) (hbb : b = (P.length + X.length + Y.length : Nat)) (hX : 0 < X.length) (hY : 0 < Y.length) (hn : P.length + X.length + Y.length + Z.length = n) (hn2 : n ≤ 1000000) : aG Tryz.prog 253 [.slice p n cap, .int .i64 a, .int .i64 m, .int .i64 b, fv] [Row I3 p n cap (P ++ X ++ Y ++ Z)] (aQ fun v G => v = .tuple #[] ∧ G = [Row I3 p n cap (P ++ Y ++ X ++ Z)]) := by
 refine av [(0, _), (1, _), (2, _), (3, _), (4, _)] Tryz.func253 rfl Tryz.ntmps253 rfl rfl ?_
 intro w0 F
 refine DX aD 18 rfl (by omega) ?_
 rw [show m - a = (X.length : Int) by omega, show b - m = (Y.length : Int) by omega]
 refine I6 (fun (P2 : List Int) (X2 : List Int) (Y2 : List Int) (Z2 : List Int) => [(0, .slice p n cap), (2, .int .i64 m), (4, fv), (10, .int .i64 (X2.length : Int)), (11, .int .i64 (Y2.length : Int))]) (fun (P2 : List Int) (X2 : List Int) (Y2 : List Int) (Z2 : List Int) => Row I3 p n cap (P2 ++ X2 ++ Y2 ++ Z2) :: F) (fun (P2 : List Int) (X2 : List Int) (Y2 : List Int) (Z2 : List Int) => P2 ++ Y2 ++ X2 ++ Z2 = P ++ Y ++ X ++ Z ∧ m = (P2.length + X2.length : Nat) ∧ 0 < X2.length ∧ 0 < Y2.length ∧ P2.length + X2.length + Y2.length + Z2.length = n) (fun (P2 : List Int) (X2 : List Int) (Y2 : List Int) (Z2 : List Int) => X2.length + Y2.length) (i4 (P) (X) (Y) (Z) ?_ (dp ln) (sub (ar .nil) aw)) ?_
 ·exact ⟨rfl, hm, hX, hY, hn⟩
 intro P2 X2 Y2 Z2
 rintro ⟨hT, hm2, hX2, hY2, hn3⟩
 refine rL aD 8 rfl ?_
 refine aN rfl (fun h20 => ?_) (fun h20 => ?_)
 ·refine rC aD 10 rfl ?_
  refine aN rfl (fun h23 => ?_) (fun h23 => ?_)
  ·refine rC aD 1 rfl ?_
   obtain ⟨A, B, hX2, hA⟩ : ∃ A B, X2 = A ++ B ∧ A.length = Y2.length := ⟨X2.take Y2.length, X2.drop Y2.length, by simp, by simp; omega⟩
   subst hX2
   rw [← List.append_assoc P2 A B]
   refine fH aD 8 rfl (by omega) ?_
   refine ai (m8 p n cap _ P2 A B Y2 Z2 _ _ _ (by omega) (by (simp only [List.length_append, List.length_nil] at *; omega)) (by omega) (by omega) (by (simp only [List.length_append, List.length_nil] at *; omega)) hn2) V.E4  rfl (ar .nil) rfl ?_
   rintro _ _ ⟨rfl, rfl⟩
   refine cQ aD 9 rfl (by omega) ?_
   (rw [show (((A ++ B).length : Nat) : Int) - (Y2.length : Int) = (B.length : Int) by simp only [List.length_append]; omega, show (Y2.length : Int) = (A.length : Int) by omega]; simp only [List.length_append] at *; exact j4 (y0 := P2 ++ Y2) (y1 := B) (y2 := A) (y3 := Z2) ⟨⟨by rw [← hT]; simp, by simp only [List.length_append]; omega, by omega, by omega, by simp only [List.length_append]; omega⟩, by omega⟩ (dp ln) (sub (ar .nil) aw))
  ·refine rC aD 1 rfl ?_
   obtain ⟨B, C2, hY2, hC2⟩ : ∃ B C2, Y2 = B ++ C2 ∧ C2.length = X2.length := ⟨Y2.take (Y2.length - X2.length), Y2.drop (Y2.length - X2.length), by simp, by simp; omega⟩
   subst hY2
   rw [← List.append_assoc (P2 ++ X2) B C2]
   refine fH aD 12 rfl (by omega) ?_
   refine ai (m8 p n cap _ P2 X2 B C2 Z2 _ _ _ (by omega) (by (simp only [List.length_append, List.length_nil] at *; omega)) (by omega) (by omega) (by (simp only [List.length_append, List.length_nil] at *; omega)) hn2) V.E4  rfl (ar .nil) rfl ?_
   rintro _ _ ⟨rfl, rfl⟩
   refine cQ aD 9 rfl (by omega) ?_
   (rw [show (((B ++ C2).length : Nat) : Int) - (X2.length : Int) = (B.length : Int) by simp only [List.length_append]; omega, show (X2.length : Int) = (C2.length : Int) by omega, List.append_assoc (P2 ++ C2 ++ B) X2 Z2]; simp only [List.length_append] at *; exact j4 (y0 := P2) (y1 := C2) (y2 := B) (y3 := X2 ++ Z2) ⟨⟨by rw [← hT]; simp, by omega, by omega, by omega, by simp only [List.length_append]; omega⟩, by omega⟩ (dp ln) (sub (ar .nil) aw))
 ·refine rC aD 5 rfl ?_
  rw [show P2 ++ X2 ++ Y2 ++ Z2 = P2 ++ X2 ++ [] ++ Y2 ++ Z2 by simp]
  refine fH aD 8 rfl (by omega) ?_
  refine ai (m8 p n cap _ P2 X2 [] Y2 Z2 _ _ _ (by omega) (by omega) (by omega) (by omega) (by (simp only [List.length_append, List.length_nil] at *; omega)) hn2) V.E4  rfl (ar .nil) rfl ?_
  rintro _ _ ⟨rfl, rfl⟩
  refine cW ?_
  rw [show P2 ++ Y2 ++ [] ++ X2 ++ Z2 = P ++ Y ++ X ++ Z by rw [List.append_nil]; exact hT]
  exact jb fI ⟨rfl, rfl⟩ (sub (ar .nil) aw)
set_option maxHeartbeats 4000000 in
theorem pZ (p : Option Addr) (n cap : Nat) (cf : Nat) (fs cs : List Value) (S : ad) (key : Int → Int) (Pd : Int → Prop) (hb : aH Tryz.prog cf = true) (hf : ∀ x y, Pd x → Pd y → aG Tryz.prog cf (fs ++ [.int .i64 x, .int .i64 y] ++ cs) [S] (aQ fun v G => v = .int .i64 (mG (key x) (key y)) ∧ G = [S])) (l : List Int) (aI bI : Int) (a b : Nat) (ha : aI = a) (hbI : bI = b) (hab : a ≤ b) (hbn : b ≤ n) (hn2 : n ≤ 1000000) (hpd : ∀ i, i < n → Pd (l.getD i I3.d)) : aG Tryz.prog 245 [.slice p n cap, .int .i64 aI, .int .i64 bI, .func (.func cf) fs.toArray cs.toArray] [Row I3 p n cap (l), S] (aQ fun v G => v = .tuple #[] ∧ ∃ l2, dv.Rl key I3.d l l2 a b ∧ dv.Sd key I3.d l2 a b ∧ G = [Row I3 p n cap (l2), S]) := by
 refine av [(0, _), (1, _), (2, _), (3, _)] Tryz.func245 rfl Tryz.ntmps245 rfl rfl ?_
 intro w0 F
 refine Hi (own an) (fun hlen => ?_)
 refine DX aD 8 rfl (by omega) ?_
 rw [show aI + 1 = ((a + 1 : Nat) : Int) by omega]
 refine il (fun (i : Nat) (l1 : List Int) => [(0, .slice p n cap), (1, .int .i64 aI), (2, .int .i64 bI), (3, .func (.func cf) fs.toArray cs.toArray), (8, .int .i64 (i : Int))]) (fun (i : Nat) (l1 : List Int) => Row I3 p n cap (l1) :: S :: F) (fun (i : Nat) (l1 : List Int) => a + 1 ≤ i ∧ (i ≤ b ∨ i = a + 1) ∧ dv.Rl key I3.d l l1 a b ∧ dv.Sd key I3.d l1 a i) (fun (i : Nat) (l1 : List Int) => b - i) (i2 (a + 1) (_) ?_ (dp ln) (sub (bF .nil) aw)) ?_
 ·exact ⟨Nat.le_refl _, .inr rfl, dv.Rl.refl _ _ _, dv.Sd.small (Nat.le_refl _)⟩
 intro i l1
 rintro ⟨hi1, hi2, hR1, hS1⟩
 refine rL aD 8 rfl ?_
 refine aN rfl (fun h14 => ?_) (fun h14 => ?_)
 ·refine rC aD 11 rfl ?_
  refine il (fun (j : Nat) (l2 : List Int) => [(0, .slice p n cap), (1, .int .i64 aI), (2, .int .i64 bI), (3, .func (.func cf) fs.toArray cs.toArray), (8, .int .i64 (i : Int)), (9, .int .i64 (j : Int))]) (fun (j : Nat) (l2 : List Int) => Row I3 p n cap (l2) :: S :: F) (fun (j : Nat) (l2 : List Int) => a ≤ j ∧ j ≤ i ∧ dv.Rl key I3.d l l2 a b ∧ dv.Ins key I3.d l2 a j i) (fun (j : Nat) (l2 : List Int) => j) (i2 (i) (_) ?_ (kQ (dp ln)) (sub (bF .nil) aw)) ?_
  ·exact ⟨by omega, Nat.le_refl _, hR1, dv.Ins.start hS1⟩
  intro j l2
  rintro ⟨hj1, hj2, hR2, hI2⟩
  refine rL aD 2 rfl ?_
  have hpd2 := hR2.pd (Pd := Pd) hbn hpd
  have hlen2 := hR2.len
  by_cases h20 : aI < (j : Int)
  ·refine wN [pz 0 [] [9], pz 0 [] [1], pz 3 [0, 1] [], pz 7 [2] [], pz 15 [3] [3], pz 15 [3] [0], pz 15 [3] [9], pz 111 [5, 6, 3] [], pz 239 [7, 3] [], pz 15 [3] [0], pz 15 [3] [9], pz 1039 [10, 3] [], pz 3599 [9, 11, 3] [], pz 7695 [12, 3] [], pz 16383 [4, 8, 13, 3] [], pz 32767 [14, 3] [], pz 65535 [3, 15] []] [⟨fun y => Row I3 p n cap (l2), none, none, [7, 8, 12, 13]⟩, ⟨fun y => S, none, some 14, []⟩, ⟨fun y => S, some 14, none, []⟩] F V.mixed ?_
   iterate 2 refine nM ?_
   refine nV (fun y hA L => aW (bd rfl rfl) h20) ?_
   refine nM ?_
   refine bU _ (fun y => rfl) rfl rfl rfl (fun y hA L => eX rfl (dC (aK rfl) ⟨rfl, rfl⟩)) (by intros; rfl) (by intro y y2 h; rfl) ?_
   refine bU _ (fun y => rfl) rfl rfl rfl (fun y hA L => eX rfl (dC (aK rfl) ⟨rfl, rfl⟩)) (by intros; rfl) (by intro y y2 h; rfl) ?_
   refine bU _ (fun y => rfl) rfl rfl rfl (fun y hA L => eX rfl (dC (aK rfl) ⟨rfl, rfl⟩)) (by intros; rfl) (by intro y y2 h; rfl) ?_
   refine jM _ _ (fun y => rfl) rfl (fun y => rfl) rfl (fun y FF hA => eX rfl (dC (xI V.cT (own an)) ⟨rfl, rfl⟩)) (by intros; rfl) (by intro y y2 h; rfl) ?_
   refine jM _ _ (fun y => rfl) rfl (fun y => rfl) rfl (fun y FF hA => eX rfl (dC (xL V.s3 (own an)) ⟨rfl, rfl⟩)) (by intros; rfl) (by intro y y2 h; rfl) ?_
   refine bU _ (fun y => rfl) rfl rfl rfl (fun y hA L => eX rfl (dC (aK rfl) ⟨rfl, rfl⟩)) (by intros; rfl) (by intro y y2 h; rfl) ?_
   refine bU _ (fun y => rfl) rfl rfl rfl (fun y hA L => eX rfl (dC (aK rfl) ⟨rfl, rfl⟩)) (by intros; rfl) (by intro y y2 h; rfl) ?_
   refine bU _ (fun y => rfl) rfl rfl rfl (fun y hA L => eX rfl (dC (fT rfl rfl wI) ⟨rfl, rfl⟩)) (by intros; rfl) (by intro y y2 h; rfl) ?_
   refine jM _ _ (fun y => rfl) rfl (fun y => rfl) rfl (fun y FF hA => eX rfl (dC (xI V.cT (own an)) ⟨rfl, rfl⟩)) (by intros; rfl) (by intro y y2 h; rfl) ?_
   refine jM _ _ (fun y => rfl) rfl (fun y => rfl) rfl (fun y FF hA => eX rfl (dC (xL V.s3 (own an)) ⟨rfl, rfl⟩)) (by intros; rfl) (by intro y y2 h; rfl) ?_
   refine nE (fun y FF hA => eX rfl (lf (fs := fs) (cs := cs) (Post := [S]) (hf (I3.g l2 (j : Int)) (I3.g l2 ((j : Int) - 1)) (gP (k := j) (by omega) (hpd2 _ (by omega))) (gP (k := j - 1) (by omega) (hpd2 _ (by omega)))) hb rfl rfl (ar .nil) (fun v G h => by rcases h with ⟨rfl, rfl⟩; exact ⟨rfl, .refl _⟩))) ?_
   refine bU _ (fun y => rfl) rfl rfl rfl (fun y hA L => eX rfl (dC (bu rfl rfl) ⟨rfl, rfl⟩)) (by intros; rfl) (by intro y y2 h; rfl) ?_
   refine nV (fun y hA L => ow rfl rfl) ?_
   refine aX ?_
   intro y hA
   clear hA
   refine bN ?_
   refine cu _ (.cons (d := 0) rfl (.cons (d := 1) rfl (.cons (d := 2) rfl (.cons (d := 3) rfl (.cons (d := 8) rfl (.cons (d := 9) rfl (.cons (d := 34) rfl (.nil _)))))))) ?_
   refine bS (M := Row I3 p n cap (l2) :: S :: F) (fun _ _ h => h) ?_
   refine aN rfl (fun h34 => ?_) (fun h34 => ?_)
   ·refine rC aD 4 rfl ?_
    refine wN [pz 0 [] [0], pz 0 [] [9], pz 0 [] [0], pz 0 [] [9], pz 8 [3] [], pz 0 [] [0], pz 0 [] [9], pz 64 [6] [], pz 224 [5, 7] [], pz 480 [8] [], pz 0 [] [0], pz 0 [] [9], pz 3072 [10, 11] [], pz 7168 [12] [], pz 16355 [0, 1] [], pz 32739 [14, 9] [], pz 65535 [2, 4] [], pz 131071 [16, 13] []] [⟨fun y => Row I3 p n cap (l2), none, some 15, [8, 9, 12, 13, 14]⟩, ⟨fun y => S, none, none, []⟩, ⟨fun y => Row I3 p n cap ((l2).set (j : Int).toNat ((I3).g (l2) ((j : Int) - 1))), some 15, some 17, [16]⟩, ⟨fun y => Row I3 p n cap (((l2).set (j : Int).toNat ((I3).g (l2) ((j : Int) - 1))).set ((j : Int) - 1).toNat ((I3).g (l2) (j : Int))), some 17, none, []⟩] F V.mixed ?_
    iterate 4 refine nM ?_
    refine nV (fun y hA L => fT rfl rfl wI) ?_
    iterate 2 refine nM ?_
    refine nV (fun y hA L => fT rfl rfl wI) ?_
    refine nR (fun y FF hA => xI V.cT (own an)) ?_
    refine nR (fun y FF hA => xL V.s3 (own an)) ?_
    iterate 2 refine nM ?_
    refine nR (fun y FF hA => xI V.cT (own an)) ?_
    refine nR (fun y FF hA => xL V.s3 (own an)) ?_
    refine nR (fun y FF hA => xI V.cT (own an)) ?_
    refine nE (fun y FF hA => dC (gu (c := (I3)) (_) V.s3 rfl rfl rfl (by exact cY) (by omega) (by omega) rfl rfl) ⟨rfl, .refl _⟩) ?_
    refine nR (fun y FF hA => xI V.cT (own an)) ?_
    refine nE (fun y FF hA => dC (gu (c := (I3)) (_) V.s3 rfl rfl rfl (by exact cY) (by omega) (by omega) rfl rfl) ⟨rfl, .refl _⟩) ?_
    refine aX ?_
    intro y hA
    clear hA
    show lL _ _ _ _ (S :: Row I3 p n cap (((l2).set (j : Int).toNat ((I3).g (l2) ((j : Int) - 1))).set ((j : Int) - 1).toNat ((I3).g (l2) (j : Int))) :: F)
    refine kC ?_
    refine bN ?_
    refine bK ?_
    refine oV (aK rfl) ?_
    refine oV (fT rfl rfl wI) ?_
    refine oV (eZ rfl) ?_
    refine cW ?_
    have hlt := kq.1 h34
    rw [gE j (by omega), gE (j - 1) (by omega)] at hlt
    have e1 : ((j : Int) - 1).toNat = j - 1 := by omega
    have e0 : (j : Int).toNat = j := by omega
    simp only [Ec.g, e1, e0]
    rw [show (j : Int) - 1 = ((j - 1 : Nat) : Int) by omega]
    exact j2 (j - 1) _ ⟨⟨by omega, by omega, hR2.trans (dv.Rl.GS (by omega) (by omega) (by omega) hlt), hI2.step (by omega) hj2 (by omega) hlt⟩, by omega⟩ (kQ (dp ln)) (sub (.cons ay (ar .nil)) aw)
   ·refine fH aD 11 rfl (by omega) ?_
    exact j2 (i + 1) _ ⟨⟨by omega, by omega, hR2, hI2.fin hj1 (.inr (by have h := Int.not_lt.1 (fun h => h34 (kq.2 h)); rw [gE (j - 1) (by omega), gE j (by omega)] at h; exact h))⟩, by omega⟩ (dp ln) (sub (bF .nil) aw)
  ·refine wN [pz 0 [] [9], pz 0 [] [1], pz 3 [0, 1] [], pz 7 [2] [], pz 15 [3] [3], pz 15 [3] [0], pz 15 [3] [9], pz 111 [5, 6, 3] [], pz 239 [7, 3] [], pz 15 [3] [0], pz 15 [3] [9], pz 1039 [10, 3] [], pz 3599 [9, 11, 3] [], pz 7695 [12, 3] [], pz 16383 [4, 8, 13, 3] [], pz 32767 [14, 3] [], pz 65535 [3, 15] []] [⟨fun y => Row I3 p n cap (l2), none, none, []⟩, ⟨fun y => S, none, none, []⟩] F V.mixed ?_
   iterate 2 refine nM ?_
   refine nV (fun y hA L => aA (bd rfl rfl) h20) ?_
   refine nM ?_
   refine bU _ (fun y => rfl) rfl rfl rfl (fun y hA L => eW rfl rfl ⟨rfl, rfl⟩) (by intros; rfl) (by intro y y2 h; rfl) ?_
   refine bU _ (fun y => rfl) rfl rfl rfl (fun y hA L => eW rfl rfl ⟨rfl, rfl⟩) (by intros; rfl) (by intro y y2 h; rfl) ?_
   refine bU _ (fun y => rfl) rfl rfl rfl (fun y hA L => eW rfl rfl ⟨rfl, rfl⟩) (by intros; rfl) (by intro y y2 h; rfl) ?_
   refine bU _ (fun y => rfl) rfl rfl rfl (fun y hA L => eW rfl rfl ⟨rfl, rfl⟩) (by intros; rfl) (by intro y y2 h; rfl) ?_
   refine bU _ (fun y => rfl) rfl rfl rfl (fun y hA L => eW rfl rfl ⟨rfl, rfl⟩) (by intros; rfl) (by intro y y2 h; rfl) ?_
   refine bU _ (fun y => rfl) rfl rfl rfl (fun y hA L => eW rfl rfl ⟨rfl, rfl⟩) (by intros; rfl) (by intro y y2 h; rfl) ?_
   refine bU _ (fun y => rfl) rfl rfl rfl (fun y hA L => eW rfl rfl ⟨rfl, rfl⟩) (by intros; rfl) (by intro y y2 h; rfl) ?_
   refine bU _ (fun y => rfl) rfl rfl rfl (fun y hA L => eW rfl rfl ⟨rfl, rfl⟩) (by intros; rfl) (by intro y y2 h; rfl) ?_
   refine bU _ (fun y => rfl) rfl rfl rfl (fun y hA L => eW rfl rfl ⟨rfl, rfl⟩) (by intros; rfl) (by intro y y2 h; rfl) ?_
   refine bU _ (fun y => rfl) rfl rfl rfl (fun y hA L => eW rfl rfl ⟨rfl, rfl⟩) (by intros; rfl) (by intro y y2 h; rfl) ?_
   refine bU _ (fun y => rfl) rfl rfl rfl (fun y hA L => eW rfl rfl ⟨rfl, rfl⟩) (by intros; rfl) (by intro y y2 h; rfl) ?_
   refine bU _ (fun y => rfl) rfl rfl rfl (fun y hA L => eW rfl rfl ⟨rfl, rfl⟩) (by intros; rfl) (by intro y y2 h; rfl) ?_
   refine nV (fun y hA L => ur rfl rfl) ?_
   refine aX ?_
   intro y hA
   clear hA
   refine bN ?_
   refine cu _ (.cons (d := 0) rfl (.cons (d := 1) rfl (.cons (d := 2) rfl (.cons (d := 3) rfl (.cons (d := 8) rfl (.cons (d := 9) rfl (.cons (d := 34) rfl (.nil _)))))))) ?_
   refine bS (M := Row I3 p n cap (l2) :: S :: F) (fun _ _ h => h) ?_
   refine fH aD 12 rfl (by omega) ?_
   exact j2 (i + 1) _ ⟨⟨by omega, by omega, hR2, hI2.fin hj1 (.inl (by omega))⟩, by omega⟩ (dp ln) (sub (bF .nil) aw)
 ·refine rC aD 4 rfl ?_
  exact jb fI ⟨rfl, l1, hR1, hS1.sub (Nat.le_refl _) (by omega), rfl⟩ (sub (bF .nil) aw)
set_option maxHeartbeats 16000000 in
theorem Cj (p : Option Addr) (n cap : Nat) (cf : Nat) (fs cs : List Value) (S : ad) (key : Int → Int) (Pd : Int → Prop) (hb : aH Tryz.prog cf = true) (hf : ∀ x y, Pd x → Pd y → aG Tryz.prog cf (fs ++ [.int .i64 x, .int .i64 y] ++ cs) [S] (aQ fun v G => v = .int .i64 (mG (key x) (key y)) ∧ G = [S])) (l : List Int) (a m b : Nat) (ham : a < m) (hmb : m < b) (hbn : b ≤ n) (hn2 : n ≤ 1000000) (hpd : ∀ i, i < n → Pd (l.getD i I3.d)) (h1 : dv.Sd key I3.d l a m) (h2 : dv.Sd key I3.d l m b) (ih : ∀ (l : List Int) (a2 m2 b2 : Nat), b2 - a2 < b - a → a2 < m2 → m2 < b2 → b2 ≤ n → (∀ i, i < n → Pd (l.getD i I3.d)) → dv.Sd key I3.d l a2 m2 → dv.Sd key I3.d l m2 b2 → aG Tryz.prog 246 [.slice p n cap, .int .i64 (a2 : Int), .int .i64 (m2 : Int), .int .i64 (b2 : Int), .func (.func cf) fs.toArray cs.toArray] [Row I3 p n cap (l), S] (aQ fun v G => v = .tuple #[] ∧ ∃ l2, dv.Rl key I3.d l l2 a2 b2 ∧ dv.Sd key I3.d l2 a2 b2 ∧ G = [Row I3 p n cap (l2), S])) : aG Tryz.prog 246 [.slice p n cap, .int .i64 (a : Int), .int .i64 (m : Int), .int .i64 (b : Int), .func (.func cf) fs.toArray cs.toArray] [Row I3 p n cap (l), S] (aQ fun v G => v = .tuple #[] ∧ ∃ l2, dv.Rl key I3.d l l2 a b ∧ dv.Sd key I3.d l2 a b ∧ G = [Row I3 p n cap (l2), S]) := by
 refine av [(0, _), (1, _), (2, _), (3, _), (4, _)] Tryz.func246 rfl Tryz.ntmps246 rfl rfl ?_
 intro w0 F
 refine Hi (own an) (fun hlen => ?_)
 refine DX aD 9 rfl (by omega) ?_
 refine aN rfl (fun h28 => ?_) (fun h28 => ?_)
 ·refine rC aD 14 rfl ?_
  refine il (fun (i : Nat) (j : Nat) => [(0, .slice p n cap), (1, .int .i64 (a : Int)), (4, .func (.func cf) fs.toArray cs.toArray), (10, .int .i64 (i : Int)), (11, .int .i64 (j : Int))]) (fun (i : Nat) (j : Nat) => Row I3 p n cap (l) :: S :: F) (fun (i : Nat) (j : Nat) => m ≤ i ∧ i ≤ j ∧ j ≤ b ∧ (∀ x, m ≤ x → x < i → key (l.getD x I3.d) < key (l.getD a I3.d)) ∧ (∀ x, j ≤ x → x < b → key (l.getD a I3.d) ≤ key (l.getD x I3.d))) (fun (i : Nat) (j : Nat) => j - i) (i2 (m) (b) ?_ (dp ln) (sub (bF .nil) aw)) ?_
  ·exact ⟨Nat.le_refl _, by omega, Nat.le_refl _, fun x x1 x2 => by omega, fun x x1 x2 => by omega⟩
  intro i j
  rintro ⟨hi1, hij, hj1, hlo, hhi⟩
  refine rL aD 8 rfl ?_
  refine aN rfl (fun h33 => ?_) (fun h33 => ?_)
  ·refine fH aD 8 rfl (by omega) ?_
   refine oV (bg V.u3 Tryz.underlying52 rfl (tv (by omega) (by omega))) ?_
   refine oV (ed rfl rfl (by decide) (Af (by omega))) ?_
   refine oV (bg V.Ge Tryz.underlying3 rfl wI) ?_
   refine oV (eZ rfl) ?_
   obtain ⟨h, hhh⟩ : ∃ h : Nat, h = (i + j) / 2 := ⟨_, rfl⟩
   rw [show ((i : Int) + (j : Int)) / 2 = ((h : Nat) : Int) by omega]
   refine rO aD 3 rfl ?_
   refine wN [pz 0 [] [4], pz 0 [] [0], pz 0 [] [12], pz 6 [1, 2] [], pz 14 [3] [], pz 0 [] [0], pz 0 [] [1], pz 96 [5, 6] [], pz 224 [7] [], pz 511 [0, 4, 8] [], pz 1023 [9] []] [⟨fun y => Row I3 p n cap (l), none, none, [3, 4, 7, 8]⟩, ⟨fun y => S, none, some 9, []⟩, ⟨fun y => S, some 9, none, []⟩] F V.mixed ?_
   iterate 3 refine nM ?_
   refine nR (fun y FF hA => xI V.cT (own an)) ?_
   refine nR (fun y FF hA => xL V.s3 (own an)) ?_
   iterate 2 refine nM ?_
   refine nR (fun y FF hA => xI V.cT (own an)) ?_
   refine nR (fun y FF hA => xL V.s3 (own an)) ?_
   refine nE (fun y FF hA => lf (fs := fs) (cs := cs) (Post := [S]) (hf (I3.g l (h : Int)) (I3.g l (a : Int)) (gP (k := h) (by omega) (hpd _ (by omega))) (gP (k := a) (by omega) (hpd _ (by omega)))) hb rfl rfl (ar .nil) (fun v G h => by rcases h with ⟨rfl, rfl⟩; exact ⟨rfl, .refl _⟩)) ?_
   refine nV (fun y hA L => bu rfl rfl) ?_
   refine aX ?_
   intro y hA
   clear hA
   refine bN ?_
   refine cu _ (.cons (d := 0) rfl (.cons (d := 1) rfl (.cons (d := 4) rfl (.cons (d := 10) rfl (.cons (d := 11) rfl (.cons (d := 12) rfl (.cons (d := 50) rfl (.nil _)))))))) ?_
   refine bS (M := Row I3 p n cap (l) :: S :: F) (fun _ _ h => h) ?_
   refine aN rfl (fun h50 => ?_) (fun h50 => ?_)
   ·refine fH aD 6 rfl (by omega) ?_
    exact j2 (h + 1) j ⟨⟨by omega, by omega, by omega, dv.NG h2 (by omega) (by omega) (by have q := kq.1 h50; rw [gE (h) (by omega), gE (a) (by omega)] at q; exact q), hhi⟩, by omega⟩ (dp ln) (sub (bF .nil) aw)
   ·refine rC aD 5 rfl ?_
    exact j2 i h ⟨⟨by omega, by omega, by omega, hlo, dv.OD h2 (by omega) (by omega) (by have q := Int.not_lt.1 (fun z => h50 (kq.2 z)); rw [gE (a) (by omega), gE (h) (by omega)] at q; exact q)⟩, by omega⟩ (dp ln) (sub (bF .nil) aw)
  ·refine rC aD 7 rfl ?_
   have hij : i = j := by omega
   subst hij
   have hma : m = a + 1 := by omega
   subst hma
   refine rC aD 6 rfl ?_
   refine il (fun (k : Nat) (l2 : List Int) => [(0, .slice p n cap), (10, .int .i64 (i : Int)), (13, .int .i64 (k : Int))]) (fun (k : Nat) (l2 : List Int) => Row I3 p n cap (l2) :: S :: F) (fun (k : Nat) (l2 : List Int) => a ≤ k ∧ k ≤ i - 1 ∧ dv.Mv key I3.d l l2 a b k) (fun (k : Nat) (l2 : List Int) => i - k) (i2 (a) (l) ?_ (js ln) (sub (bF .nil) aw)) ?_
   ·exact ⟨Nat.le_refl _, by omega, dv.Mv.start _ _ _⟩
   intro k l2
   rintro ⟨hk1, hk2, hMv⟩
   refine PH aD 9 rfl (by omega) ?_
   refine aN rfl (fun h58 => ?_) (fun h58 => ?_)
   ·refine rC aD 4 rfl ?_
    refine wN [pz 0 [] [0], pz 0 [] [13], pz 0 [] [0], pz 0 [] [13], pz 8 [3] [], pz 0 [] [0], pz 0 [] [13], pz 64 [6] [], pz 224 [5, 7] [], pz 480 [8] [], pz 0 [] [0], pz 0 [] [13], pz 3072 [10, 11] [], pz 7168 [12] [], pz 16355 [0, 1] [], pz 32739 [14, 9] [], pz 65535 [2, 4] [], pz 131071 [16, 13] []] [⟨fun y => Row I3 p n cap (l2), none, some 15, [8, 9, 12, 13, 14]⟩, ⟨fun y => S, none, none, []⟩, ⟨fun y => Row I3 p n cap ((l2).set (k : Int).toNat ((I3).g (l2) ((k : Int) + 1))), some 15, some 17, [16]⟩, ⟨fun y => Row I3 p n cap (((l2).set (k : Int).toNat ((I3).g (l2) ((k : Int) + 1))).set ((k : Int) + 1).toNat ((I3).g (l2) (k : Int))), some 17, none, []⟩] F V.mixed ?_
    iterate 4 refine nM ?_
    refine nV (fun y hA L => du rfl rfl wI) ?_
    iterate 2 refine nM ?_
    refine nV (fun y hA L => du rfl rfl wI) ?_
    refine nR (fun y FF hA => xI V.cT (own an)) ?_
    refine nR (fun y FF hA => xL V.s3 (own an)) ?_
    iterate 2 refine nM ?_
    refine nR (fun y FF hA => xI V.cT (own an)) ?_
    refine nR (fun y FF hA => xL V.s3 (own an)) ?_
    refine nR (fun y FF hA => xI V.cT (own an)) ?_
    refine nE (fun y FF hA => dC (gu (c := (I3)) (_) V.s3 rfl rfl rfl (by exact cY) (by omega) (by omega) rfl rfl) ⟨rfl, .refl _⟩) ?_
    refine nR (fun y FF hA => xI V.cT (own an)) ?_
    refine nE (fun y FF hA => dC (gu (c := (I3)) (_) V.s3 rfl rfl rfl (by exact cY) (by omega) (by omega) rfl rfl) ⟨rfl, .refl _⟩) ?_
    refine aX ?_
    intro y hA
    clear hA
    show lL _ _ _ _ (S :: Row I3 p n cap (((l2).set (k : Int).toNat ((I3).g (l2) ((k : Int) + 1))).set ((k : Int) + 1).toNat ((I3).g (l2) (k : Int))) :: F)
    refine kC ?_
    refine bN ?_
    refine bK ?_
    refine oV (aK rfl) ?_
    refine oV (du rfl rfl wI) ?_
    refine oV (eZ rfl) ?_
    refine cW ?_
    have hlen2 := hMv.rl.len
    have e1 : ((k : Int) + 1).toNat = k + 1 := by omega
    have e0 : (k : Int).toNat = k := by omega
    simp only [Ec.g, e1, e0]
    exact j2 (k + 1) _ ⟨⟨by omega, by omega, hMv.step (by omega) (by omega) (by omega) (hlo _ (by omega) (by omega))⟩, by omega⟩ (js ln) (sub (.cons ay (ar .nil)) aw)
   ·refine rC aD 7 rfl ?_
    have hke : k = i - 1 := by omega
    subst hke
    exact ak fI ⟨rfl, l2, hMv.rl, hMv.fin (by omega) (by omega) h2 hlo hhi, rfl⟩ (sub (bF .nil) aw)
 ·refine fH aD 11 rfl (by omega) ?_
  refine aN rfl (fun h80 => ?_) (fun h80 => ?_)
  ·refine rC aD 14 rfl ?_
   refine il (fun (i : Nat) (j : Nat) => [(0, .slice p n cap), (2, .int .i64 (m : Int)), (4, .func (.func cf) fs.toArray cs.toArray), (14, .int .i64 (i : Int)), (15, .int .i64 (j : Int))]) (fun (i : Nat) (j : Nat) => Row I3 p n cap (l) :: S :: F) (fun (i : Nat) (j : Nat) => a ≤ i ∧ i ≤ j ∧ j ≤ m ∧ (∀ x, a ≤ x → x < i → key (l.getD x I3.d) ≤ key (l.getD m I3.d)) ∧ (∀ x, j ≤ x → x < m → key (l.getD m I3.d) < key (l.getD x I3.d))) (fun (i : Nat) (j : Nat) => j - i) (i2 (a) (m) ?_ (dp ln) (sub (bF .nil) aw)) ?_
   ·exact ⟨Nat.le_refl _, by omega, Nat.le_refl _, fun x x1 x2 => by omega, fun x x1 x2 => by omega⟩
   intro i j
   rintro ⟨hi1, hij, hj1, hlo, hhi⟩
   refine rL aD 8 rfl ?_
   refine aN rfl (fun h85 => ?_) (fun h85 => ?_)
   ·refine fH aD 8 rfl (by omega) ?_
    refine oV (bg V.u3 Tryz.underlying52 rfl (tv (by omega) (by omega))) ?_
    refine oV (ed rfl rfl (by decide) (Af (by omega))) ?_
    refine oV (bg V.Ge Tryz.underlying3 rfl wI) ?_
    refine oV (eZ rfl) ?_
    obtain ⟨h, hhh⟩ : ∃ h : Nat, h = (i + j) / 2 := ⟨_, rfl⟩
    rw [show ((i : Int) + (j : Int)) / 2 = ((h : Nat) : Int) by omega]
    refine rO aD 3 rfl ?_
    refine wN [pz 0 [] [4], pz 0 [] [0], pz 0 [] [2], pz 6 [1, 2] [], pz 14 [3] [], pz 0 [] [0], pz 0 [] [16], pz 96 [5, 6] [], pz 224 [7] [], pz 511 [0, 4, 8] [], pz 1023 [9] [], pz 2047 [10] []] [⟨fun y => Row I3 p n cap (l), none, none, [3, 4, 7, 8]⟩, ⟨fun y => S, none, some 9, []⟩, ⟨fun y => S, some 9, none, []⟩] F V.mixed ?_
    iterate 3 refine nM ?_
    refine nR (fun y FF hA => xI V.cT (own an)) ?_
    refine nR (fun y FF hA => xL V.s3 (own an)) ?_
    iterate 2 refine nM ?_
    refine nR (fun y FF hA => xI V.cT (own an)) ?_
    refine nR (fun y FF hA => xL V.s3 (own an)) ?_
    refine nE (fun y FF hA => lf (fs := fs) (cs := cs) (Post := [S]) (hf (I3.g l (m : Int)) (I3.g l (h : Int)) (gP (k := m) (by omega) (hpd _ (by omega))) (gP (k := h) (by omega) (hpd _ (by omega)))) hb rfl rfl (ar .nil) (fun v G h => by rcases h with ⟨rfl, rfl⟩; exact ⟨rfl, .refl _⟩)) ?_
    refine nV (fun y hA L => bu rfl rfl) ?_
    refine nV (fun y hA L => BS rfl) ?_
    refine aX ?_
    intro y hA
    clear hA
    refine bN ?_
    refine cu _ (.cons (d := 0) rfl (.cons (d := 2) rfl (.cons (d := 4) rfl (.cons (d := 14) rfl (.cons (d := 15) rfl (.cons (d := 16) rfl (.cons (d := 103) rfl (.nil _)))))))) ?_
    refine bS (M := Row I3 p n cap (l) :: S :: F) (fun _ _ h => h) ?_
    refine aN rfl (fun h103 => ?_) (fun h103 => ?_)
    ·refine fH aD 6 rfl (by omega) ?_
     exact j2 (h + 1) j ⟨⟨by omega, by omega, by omega, dv.Ny h1 (by omega) (by omega) (by have q := Int.not_lt.1 (fun z => h103 (kq.2 z)); rw [gE (h) (by omega), gE (m) (by omega)] at q; exact q), hhi⟩, by omega⟩ (dp ln) (sub (bF .nil) aw)
    ·refine rC aD 5 rfl ?_
     exact j2 i h ⟨⟨by omega, by omega, by omega, hlo, dv.OZ h1 (by omega) (by omega) (by have q := kq.1 (Classical.not_not.1 h103); rw [gE (m) (by omega), gE (h) (by omega)] at q; exact q)⟩, by omega⟩ (dp ln) (sub (bF .nil) aw)
   ·refine rC aD 7 rfl ?_
    have hij : i = j := by omega
    subst hij
    have hbm : b = m + 1 := by omega
    refine rC aD 6 rfl ?_
    refine il (fun (k : Nat) (l2 : List Int) => [(0, .slice p n cap), (14, .int .i64 (i : Int)), (17, .int .i64 (k : Int))]) (fun (k : Nat) (l2 : List Int) => Row I3 p n cap (l2) :: S :: F) (fun (k : Nat) (l2 : List Int) => i ≤ k ∧ k ≤ m ∧ dv.Mw key I3.d l l2 a b m k) (fun (k : Nat) (l2 : List Int) => k) (i2 (m) (l) ?_ (js ln) (sub (bF .nil) aw)) ?_
    ·exact ⟨by omega, Nat.le_refl _, dv.Mw.start _ _ _ _⟩
    intro k l2
    rintro ⟨hk1, hk2, hMw⟩
    refine rL aD 8 rfl ?_
    refine aN rfl (fun h110 => ?_) (fun h110 => ?_)
    ·refine rC aD 4 rfl ?_
     refine wN [pz 0 [] [0], pz 0 [] [17], pz 0 [] [0], pz 0 [] [17], pz 8 [3] [], pz 0 [] [0], pz 0 [] [17], pz 64 [6] [], pz 224 [5, 7] [], pz 480 [8] [], pz 0 [] [0], pz 0 [] [17], pz 3072 [10, 11] [], pz 7168 [12] [], pz 16355 [0, 1] [], pz 32739 [14, 9] [], pz 65535 [2, 4] [], pz 131071 [16, 13] []] [⟨fun y => Row I3 p n cap (l2), none, some 15, [8, 9, 12, 13, 14]⟩, ⟨fun y => S, none, none, []⟩, ⟨fun y => Row I3 p n cap ((l2).set (k : Int).toNat ((I3).g (l2) ((k : Int) - 1))), some 15, some 17, [16]⟩, ⟨fun y => Row I3 p n cap (((l2).set (k : Int).toNat ((I3).g (l2) ((k : Int) - 1))).set ((k : Int) - 1).toNat ((I3).g (l2) (k : Int))), some 17, none, []⟩] F V.mixed ?_
     iterate 4 refine nM ?_
     refine nV (fun y hA L => fT rfl rfl wI) ?_
     iterate 2 refine nM ?_
     refine nV (fun y hA L => fT rfl rfl wI) ?_
     refine nR (fun y FF hA => xI V.cT (own an)) ?_
     refine nR (fun y FF hA => xL V.s3 (own an)) ?_
     iterate 2 refine nM ?_
     refine nR (fun y FF hA => xI V.cT (own an)) ?_
     refine nR (fun y FF hA => xL V.s3 (own an)) ?_
     refine nR (fun y FF hA => xI V.cT (own an)) ?_
     refine nE (fun y FF hA => dC (gu (c := (I3)) (_) V.s3 rfl rfl rfl (by exact cY) (by omega) (by omega) rfl rfl) ⟨rfl, .refl _⟩) ?_
     refine nR (fun y FF hA => xI V.cT (own an)) ?_
     refine nE (fun y FF hA => dC (gu (c := (I3)) (_) V.s3 rfl rfl rfl (by exact cY) (by omega) (by omega) rfl rfl) ⟨rfl, .refl _⟩) ?_
     refine aX ?_
     intro y hA
     clear hA
     show lL _ _ _ _ (S :: Row I3 p n cap (((l2).set (k : Int).toNat ((I3).g (l2) ((k : Int) - 1))).set ((k : Int) - 1).toNat ((I3).g (l2) (k : Int))) :: F)
     refine kC ?_
     refine bN ?_
     refine bK ?_
     refine oV (aK rfl) ?_
     refine oV (fT rfl rfl wI) ?_
     refine oV (eZ rfl) ?_
     refine cW ?_
     have hlen2 := hMw.rl.len
     have e1 : ((k : Int) - 1).toNat = k - 1 := by omega
     have e0 : (k : Int).toNat = k := by omega
     simp only [Ec.g, e1, e0]
     rw [show (k : Int) - 1 = ((k - 1 : Nat) : Int) by omega]
     exact j2 (k - 1) _ ⟨⟨by omega, by omega, hMw.step (by omega) (by omega) (by omega) (by omega) (hhi _ (by omega) (by omega))⟩, by omega⟩ (js ln) (sub (.cons ay (ar .nil)) aw)
    ·refine rC aD 7 rfl ?_
     have hke : k = i := by omega
     subst hke
     exact ak fI ⟨rfl, l2, hMw.rl, hMw.fin (by omega) (by omega) hbm h1 hlo hhi, rfl⟩ (sub (bF .nil) aw)
  ·refine fH aD 7 rfl (by omega) ?_
   refine oV (bg V.u3 Tryz.underlying52 rfl (tv (by omega) (by omega))) ?_
   refine oV (ed rfl rfl (by decide) (Af (by omega))) ?_
   refine oV (bg V.Ge Tryz.underlying3 rfl wI) ?_
   refine oV (eZ rfl) ?_
   obtain ⟨bo, hmidmid⟩ : ∃ bo : Nat, bo = (a + b) / 2 := ⟨_, rfl⟩
   rw [show ((a : Int) + (b : Int)) / 2 = ((bo : Nat) : Int) by omega]
   refine cQ aD 16 rfl (by omega) ?_
   refine zW (fun (st0 : Nat) (r0 : Nat) => [(0, .slice p n cap), (1, .int .i64 (a : Int)), (2, .int .i64 (m : Int)), (3, .int .i64 (b : Int)), (4, .func (.func cf) fs.toArray cs.toArray), (18, .int .i64 (bo : Int)), (19, .int .i64 ((bo : Int) + (m : Int))), (20, .int .i64 (st0 : Int)), (21, .int .i64 (r0 : Int))]) (fun (st0 : Nat) (r0 : Nat) => Row I3 p n cap (l) :: S :: F) (fun (st0 : Nat) (r0 : Nat) => st0 = (if bo < m then bo + m - b else a) ∧ r0 = (if bo < m then bo else m)) ?_ ?_
   ·refine rL aD 7 rfl ?_
    refine aN rfl (fun h140 => ?_) (fun h140 => ?_)
    ·refine fH aD 12 rfl (by omega) ?_
     (rw [show (bo : Int) + (m : Int) - (b : Int) = ((bo + m - b : Nat) : Int) by omega]; exact j2 (bo + m - b) bo ⟨(if_pos (by omega)).symm, (if_pos (by omega)).symm⟩ (fo (dp ln)) (sub (bF .nil) aw))
    ·refine rC aD 10 rfl ?_
     exact j2 a m ⟨(if_neg (by omega)).symm, (if_neg (by omega)).symm⟩ (fo (dp ln)) (sub (bF .nil) aw)
   ·intro st0 r0
    rintro hst
    have hb0 : a ≤ st0 ∧ st0 ≤ r0 ∧ r0 ≤ m ∧ r0 ≤ bo ∧ bo + m ≤ st0 + b ∧ bo < b := by obtain ⟨e0, e1⟩ := hst; split at e0 <;> split at e1 <;> omega
    refine fH aD 9 rfl (by omega) ?_
    refine il (fun (s : Nat) (r : Nat) => [(0, .slice p n cap), (1, .int .i64 (a : Int)), (2, .int .i64 (m : Int)), (3, .int .i64 (b : Int)), (4, .func (.func cf) fs.toArray cs.toArray), (18, .int .i64 (bo : Int)), (19, .int .i64 ((bo : Int) + (m : Int))), (20, .int .i64 (s : Int)), (21, .int .i64 (r : Int)), (22, .int .i64 (((bo : Int) + (m : Int)) - 1))]) (fun (s : Nat) (r : Nat) => Row I3 p n cap (l) :: S :: F) (fun (s : Nat) (r : Nat) => st0 ≤ s ∧ s ≤ r ∧ r ≤ r0 ∧ (∀ x, st0 ≤ x → x < s → key (l.getD x I3.d) ≤ key (l.getD (bo + m - 1 - x) I3.d)) ∧ (∀ x, r ≤ x → x < r0 → key (l.getD (bo + m - 1 - x) I3.d) < key (l.getD x I3.d))) (fun (s : Nat) (r : Nat) => r - s) (i2 (st0) (r0) ?_ (dp (dp ln)) (sub (bF .nil) aw)) ?_
    ·exact ⟨Nat.le_refl _, by omega, Nat.le_refl _, fun x x1 x2 => by omega, fun x x1 x2 => by omega⟩
    intro s r
    rintro ⟨hs1, hsr1, hr1, hy, hno⟩
    refine rL aD 8 rfl ?_
    refine aN rfl (fun h151 => ?_) (fun h151 => ?_)
    ·refine fH aD 8 rfl (by omega) ?_
     refine oV (bg V.u3 Tryz.underlying52 rfl (tv (by omega) (by omega))) ?_
     refine oV (ed rfl rfl (by decide) (Af (by omega))) ?_
     refine oV (bg V.Ge Tryz.underlying3 rfl wI) ?_
     refine oV (eZ rfl) ?_
     obtain ⟨h, hhh⟩ : ∃ h : Nat, h = (s + r) / 2 := ⟨_, rfl⟩
     rw [show ((s : Int) + (r : Int)) / 2 = ((h : Nat) : Int) by omega]
     refine rO aD 3 rfl ?_
     refine wN [pz 0 [] [4], pz 0 [] [0], pz 0 [] [22], pz 0 [] [23], pz 12 [2, 3] [], pz 30 [1, 4] [], pz 62 [5] [], pz 0 [] [0], pz 0 [] [23], pz 384 [7, 8] [], pz 896 [9] [], pz 2047 [0, 6, 10] [], pz 4095 [11] [], pz 8191 [12] []] [⟨fun y => Row I3 p n cap (l), none, none, [5, 6, 9, 10]⟩, ⟨fun y => S, none, some 11, []⟩, ⟨fun y => S, some 11, none, []⟩] F V.mixed ?_
     iterate 4 refine nM ?_
     refine nV (fun y hA L => fT rfl rfl wI) ?_
     refine nR (fun y FF hA => xI V.cT (own an)) ?_
     refine nR (fun y FF hA => xL V.s3 (own an)) ?_
     iterate 2 refine nM ?_
     refine nR (fun y FF hA => xI V.cT (own an)) ?_
     refine nR (fun y FF hA => xL V.s3 (own an)) ?_
     refine nE (fun y FF hA => lf (fs := fs) (cs := cs) (Post := [S]) (hf (I3.g l ((((bo : Int) + (m : Int)) - 1) - (h : Int))) (I3.g l (h : Int)) (gP (k := bo + m - 1 - h) (by omega) (hpd _ (by omega))) (gP (k := h) (by omega) (hpd _ (by omega)))) hb rfl rfl (ar .nil) (fun v G h => by rcases h with ⟨rfl, rfl⟩; exact ⟨rfl, .refl _⟩)) ?_
     refine nV (fun y hA L => bu rfl rfl) ?_
     refine nV (fun y hA L => BS rfl) ?_
     refine aX ?_
     intro y hA
     clear hA
     refine bN ?_
     refine cu _ (.cons (d := 0) rfl (.cons (d := 1) rfl (.cons (d := 2) rfl (.cons (d := 3) rfl (.cons (d := 4) rfl (.cons (d := 18) rfl (.cons (d := 19) rfl (.cons (d := 20) rfl (.cons (d := 21) rfl (.cons (d := 22) rfl (.cons (d := 23) rfl (.cons (d := 171) rfl (.nil _))))))))))))) ?_
     refine bS (M := Row I3 p n cap (l) :: S :: F) (fun _ _ h => h) ?_
     refine aN rfl (fun h171 => ?_) (fun h171 => ?_)
     ·refine fH aD 6 rfl (by omega) ?_
      exact j2 (h + 1) r ⟨⟨by omega, by omega, by omega, dv.Mm ham hmb hmidmid h1 h2 hst.1 hst.2 (by omega) (by omega) (by have q := Int.not_lt.1 (fun z => h171 (kq.2 z)); rw [gE (h) (by omega), gE (bo + m - 1 - h) (by omega)] at q; exact q), hno⟩, by omega⟩ (dp (dp ln)) (sub (bF .nil) aw)
     ·refine rC aD 5 rfl ?_
      exact j2 s h ⟨⟨by omega, by omega, by omega, hy, dv.L4 ham hmb hmidmid h1 h2 hst.1 hst.2 (by omega) (by omega) (by have q := kq.1 (Classical.not_not.1 h171); rw [gE (bo + m - 1 - h) (by omega), gE (h) (by omega)] at q; exact q)⟩, by omega⟩ (dp (dp ln)) (sub (bF .nil) aw)
    ·refine rC aD 6 rfl ?_
     have hsr : s = r := by omega
     subst hsr
     obtain ⟨q1, q2, q3, q4, q5, q6, hlt, hc⟩ := dv.Et (by omega) ham hmb hmidmid h1 h2 (by rw [← hst.1]; omega) (by rw [← hst.2]; omega) (fun hh => hy (s - 1) (by rw [← hst.1] at hh; omega) (by rw [← hst.1] at hh; omega)) (fun hh => hno s (Nat.le_refl _) (by rw [← hst.2] at hh; omega))
     refine fH aD 5 rfl (by omega) ?_
     obtain ⟨e, he⟩ : ∃ e : Nat, e = bo + m - s := ⟨_, rfl⟩
     rw [show (bo : Int) + (m : Int) - (s : Int) = ((e : Nat) : Int) by omega]
     refine rO aD 2 rfl ?_
     refine mS (fun (l1 : List Int) => [(0, .slice p n cap), (1, .int .i64 (a : Int)), (3, .int .i64 (b : Int)), (4, .func (.func cf) fs.toArray cs.toArray), (18, .int .i64 (bo : Int)), (20, .int .i64 (s : Int)), (24, .int .i64 (e : Int))]) (fun (l1 : List Int) => Row I3 p n cap (l1) :: S :: F) (fun (l1 : List Int) => dv.nQ key I3.d l l1 a s bo e b) ?_ ?_
     ·refine rL aD 6 rfl ?_
      refine ld 181 rfl (fun h181 => ?_) (fun h181 => ?_)
      ·refine rO aD 6 rfl ?_
       refine aN rfl (fun h185 => ?_) (fun h185 => ?_)
       ·obtain ⟨Pp, X, Y, Z, hl, hP, hX, hY, hXm, hYm⟩ := dv.blocks (d := I3.d) l s m e (by omega) (by omega) (by omega)
        subst hl
        refine rC aD 6 rfl ?_
        refine ai (BN p n cap _ Pp X Y Z (s : Int) (m : Int) (e : Int) (by omega) (by omega) (by omega) (by omega) (by omega) (by simp only [List.length_append] at hlen; omega) hn2) V.Qn  rfl (ar .nil) rfl ?_
        rintro _ _ ⟨rfl, rfl⟩
        refine cW ?_
        refine j1 (_) ?_ (kG (dp ln)) (sub (bF .nil) aw)
        (subst he; exact dv.nQ.RD hP hX (by omega) h1 h2 ⟨q1, q2, q3, q4, q5, q6⟩ (hlt (by omega) (by omega)) hc hXm hYm)
       ·refine rC aD 1 rfl ?_
        refine j1 (_) ?_ (kG (dp ln)) (sub (bF .nil) aw)
        (subst he; exact dv.nQ.stay h1 h2 ⟨q1, q2, q3, q4, q5, q6⟩ hc (by omega))
      ·refine rO aD 8 rfl ?_
       refine j1 (_) ?_ (kG (dp ln)) (sub (bF .nil) aw)
       (subst he; exact dv.nQ.stay h1 h2 ⟨q1, q2, q3, q4, q5, q6⟩ hc (by omega))
     ·intro l1
      rintro hPt
      refine mS (fun (l2 : List Int) => [(0, .slice p n cap), (3, .int .i64 (b : Int)), (4, .func (.func cf) fs.toArray cs.toArray), (18, .int .i64 (bo : Int)), (24, .int .i64 (e : Int))]) (fun (l2 : List Int) => Row I3 p n cap (l2) :: S :: F) (fun (l2 : List Int) => dv.Rl key I3.d l1 l2 a bo ∧ dv.Sd key I3.d l2 a bo) ?_ ?_
      ·refine rL aD 6 rfl ?_
       refine ld 195 rfl (fun h195 => ?_) (fun h195 => ?_)
       ·refine rO aD 6 rfl ?_
        refine aN rfl (fun h199 => ?_) (fun h199 => ?_)
        ·refine rC aD 6 rfl ?_
         refine ai (ih l1 a s bo (by omega) (by omega) (by omega) (by omega) (hPt.rl.pd (by omega) hpd) hPt.s1 hPt.s2) V.AF  rfl (bF .nil) rfl ?_
         rintro _ _ ⟨rfl, l2, hr2, hs2, rfl⟩
         refine cW ?_
         refine j1 (_) ?_ (dp ln) (sub (bF .nil) aw)
         exact ⟨hr2, hs2⟩
        ·refine rC aD 1 rfl ?_
         refine j1 (_) ?_ (dp ln) (sub (bF .nil) aw)
         exact ⟨dv.Rl.refl _ _ _, dv.Sd.join hPt.s1 hPt.s2 (fun i j i1 i2 j1 j2 => by omega)⟩
       ·refine rO aD 8 rfl ?_
        refine j1 (_) ?_ (dp ln) (sub (bF .nil) aw)
        exact ⟨dv.Rl.refl _ _ _, dv.Sd.join hPt.s1 hPt.s2 (fun i j i1 i2 j1 j2 => by omega)⟩
      ·intro l2
       rintro ⟨hR2, hS2⟩
       refine rC aD 6 rfl ?_
       refine ld 209 rfl (fun h209 => ?_) (fun h209 => ?_)
       ·refine rO aD 6 rfl ?_
        refine aN rfl (fun h213 => ?_) (fun h213 => ?_)
        ·refine rC aD 6 rfl ?_
         refine ai (ih l2 bo e b (by omega) (by omega) (by omega) (by omega) (hR2.pd (by omega) (hPt.rl.pd (by omega) hpd)) (hPt.s3.congr (fun i i1 i2 => hR2.out i (by omega))) (hPt.s4.congr (fun i i1 i2 => hR2.out i (by omega)))) V.AF  rfl (bF .nil) rfl ?_
         rintro _ _ ⟨rfl, l3, hr3, nu, rfl⟩
         refine cW ?_
         exact jb fI ⟨rfl, l3, hPt.rl.trans ((hR2.wide (Nat.le_refl _) (by omega)).trans (hr3.wide (by omega) (Nat.le_refl _))), dv.Sd.join (hS2.congr (fun i i1 i2 => hr3.out i (by omega))) nu (dv.yC (dv.oG hPt.cr hR2) hr3), rfl⟩ (sub (bF .nil) aw)
        ·refine rC aD 1 rfl ?_
         exact jb fI ⟨rfl, l2, hPt.rl.trans (hR2.wide (Nat.le_refl _) (by omega)), dv.Sd.join hS2 (dv.Sd.join (hPt.s3.congr (fun i i1 i2 => hR2.out i (by omega))) (hPt.s4.congr (fun i i1 i2 => hR2.out i (by omega))) (fun i j i1 i2 j1 j2 => by omega)) (dv.oG hPt.cr hR2), rfl⟩ (sub (bF .nil) aw)
       ·refine rO aD 8 rfl ?_
        exact jb fI ⟨rfl, l2, hPt.rl.trans (hR2.wide (Nat.le_refl _) (by omega)), dv.Sd.join hS2 (dv.Sd.join (hPt.s3.congr (fun i i1 i2 => hR2.out i (by omega))) (hPt.s4.congr (fun i i1 i2 => hR2.out i (by omega))) (fun i j i1 i2 j1 j2 => by omega)) (dv.oG hPt.cr hR2), rfl⟩ (sub (bF .nil) aw)
theorem sk (p : Option Addr) (n cap : Nat) (cf : Nat) (fs cs : List Value) (S : ad) (key : Int → Int) (Pd : Int → Prop) (hb : aH Tryz.prog cf = true) (hf : ∀ x y, Pd x → Pd y → aG Tryz.prog cf (fs ++ [.int .i64 x, .int .i64 y] ++ cs) [S] (aQ fun v G => v = .int .i64 (mG (key x) (key y)) ∧ G = [S])) (hn2 : n ≤ 1000000) : ∀ (k : Nat) (l : List Int) (a m b : Nat), b - a ≤ k → a < m → m < b → b ≤ n → (∀ i, i < n → Pd (l.getD i I3.d)) → dv.Sd key I3.d l a m → dv.Sd key I3.d l m b → aG Tryz.prog 246 [.slice p n cap, .int .i64 (a : Int), .int .i64 (m : Int), .int .i64 (b : Int), .func (.func cf) fs.toArray cs.toArray] [Row I3 p n cap (l), S] (aQ fun v G => v = .tuple #[] ∧ ∃ l2, dv.Rl key I3.d l l2 a b ∧ dv.Sd key I3.d l2 a b ∧ G = [Row I3 p n cap (l2), S])
 | 0, l, a, m, b, hk, ham, hmb, hbn, hpd, h1, h2 => by omega
 | k + 1, l, a, m, b, hk, ham, hmb, hbn, hpd, h1, h2 => Cj p n cap cf fs cs S key Pd hb hf l a m b ham hmb hbn hn2 hpd h1 h2 (fun l a2 m2 b2 hlt q1 q2 q3 q4 q5 q6 => sk p n cap cf fs cs S key Pd hb hf hn2 k l a2 m2 b2 (by omega) q1 q2 q3 q4 q5 q6)
set_option maxHeartbeats 8000000 in
theorem Df (p : Option Addr) (n cap : Nat) (cf : Nat) (fs cs : List Value) (S : ad) (key : Int → Int) (Pd : Int → Prop) (hb : aH Tryz.prog cf = true) (hf : ∀ x y, Pd x → Pd y → aG Tryz.prog cf (fs ++ [.int .i64 x, .int .i64 y] ++ cs) [S] (aQ fun v G => v = .int .i64 (mG (key x) (key y)) ∧ G = [S])) (l : List Int) (hn2 : n ≤ 1000000) (hpd : ∀ i, i < n → Pd (l.getD i I3.d)) : aG Tryz.prog 229 [.slice p n cap, .int .i64 (n : Int), .func (.func cf) fs.toArray cs.toArray] [Row I3 p n cap (l), S] (aQ fun v G => v = .tuple #[] ∧ ∃ l2, dv.Rl key I3.d l l2 0 n ∧ dv.Sd key I3.d l2 0 n ∧ G = [Row I3 p n cap (l2), S]) := by
 refine av [(0, _), (1, _), (2, _)] Tryz.func229 rfl Tryz.ntmps229 rfl rfl ?_
 intro w0 F
 refine rT aD 14 rfl ?_
 refine il (fun (A : Nat) (l1 : List Int) => [(0, .slice p n cap), (1, .int .i64 (n : Int)), (2, .func (.func cf) fs.toArray cs.toArray), (6, .int .i64 20), (7, .int .i64 (A : Int)), (8, .int .i64 ((20 + A : Nat) : Int))]) (fun (A : Nat) (l1 : List Int) => Row I3 p n cap (l1) :: S :: F) (fun (A : Nat) (l1 : List Int) => 20 ∣ A ∧ A ≤ n ∧ dv.Rl key I3.d l l1 0 n ∧ dv.Bd key I3.d l1 20 A) (fun (A : Nat) (l1 : List Int) => n - A) (i2 (0) (l) ?_ (kQ (dp ln)) (sub (bF .nil) aw)) ?_
 ·exact ⟨Nat.dvd_zero _, Nat.zero_le _, dv.Rl.refl _ _ _, dv.Bd.zero _ _ (by decide)⟩
 intro A l1
 rintro ⟨hA, hAn, hR1, hBd⟩
 refine rL aD 8 rfl ?_
 refine aN rfl (fun h13 => ?_) (fun h13 => ?_)
 ·refine rC aD 9 rfl ?_
  refine ai (pZ p n cap cf fs cs S key Pd hb hf l1 _ _ A (20 + A) rfl rfl (by omega) (by omega) hn2 (hR1.pd (Nat.le_refl _) hpd)) V.MO  rfl (bF .nil) rfl ?_
  rintro _ _ ⟨rfl, l3, hr3, nu, rfl⟩
  refine cQ aD 15 rfl (by omega) ?_
  rw [show ((20 + A : Nat) : Int) + 20 = ((20 + (20 + A) : Nat) : Int) by omega]
  exact j2 (20 + A) _ ⟨⟨by omega, by omega, hR1.trans (hr3.wide (Nat.zero_le _) (by omega)), hBd.step hA hr3 nu⟩, by omega⟩ (kQ (dp ln)) (sub (bF .nil) aw)
 ·refine rC aD 11 rfl ?_
  refine ai (pZ p n cap cf fs cs S key Pd hb hf l1 _ _ A n rfl rfl (by omega) (by omega) hn2 (hR1.pd (Nat.le_refl _) hpd)) V.MO  rfl (bF .nil) rfl ?_
  rintro _ _ ⟨rfl, l3, hr3, nu, rfl⟩
  refine rO aD 3 rfl ?_
  refine il (fun (bs : Nat) (l1 : List Int) => [(0, .slice p n cap), (1, .int .i64 (n : Int)), (2, .func (.func cf) fs.toArray cs.toArray), (6, .int .i64 (bs : Int))]) (fun (bs : Nat) (l1 : List Int) => Row I3 p n cap (l1) :: S :: F) (fun (bs : Nat) (l1 : List Int) => 0 < bs ∧ dv.Rl key I3.d l l1 0 n ∧ dv.Bk key I3.d l1 bs n) (fun (bs : Nat) (l1 : List Int) => n - bs) (i2 (20) (_) ?_ (fo ln) (sub (bF .nil) aw)) ?_
  ·exact ⟨by decide, hR1.trans (hr3.wide (Nat.zero_le _) (Nat.le_refl _)), hBd.fin hA hAn (by omega) hr3 nu⟩
  intro bs l1
  rintro ⟨hbs, hR1, hBk⟩
  refine rL aD 8 rfl ?_
  refine aN rfl (fun h30 => ?_) (fun h30 => ?_)
  ·refine fH aD 13 rfl (by omega) ?_
   refine il (fun (A : Nat) (l2 : List Int) => [(0, .slice p n cap), (1, .int .i64 (n : Int)), (2, .func (.func cf) fs.toArray cs.toArray), (6, .int .i64 (bs : Int)), (7, .int .i64 (A : Int)), (8, .int .i64 ((2 * bs + A : Nat) : Int))]) (fun (A : Nat) (l2 : List Int) => Row I3 p n cap (l2) :: S :: F) (fun (A : Nat) (l2 : List Int) => 2 * bs ∣ A ∧ A ≤ n ∧ dv.Rl key I3.d l l2 0 n ∧ dv.Bd key I3.d l2 (2 * bs) A ∧ dv.Br key I3.d l2 bs n A) (fun (A : Nat) (l2 : List Int) => n - A) (i2 (0) (_) ?_ (kQ (dp ln)) (sub (bF .nil) aw)) ?_
   ·exact ⟨Nat.dvd_zero _, Nat.zero_le _, hR1, dv.Bd.zero _ _ (by omega), hBk.br⟩
   intro A l2
   rintro ⟨hA, hAn, hR2, hBd, hBr⟩
   refine rL aD 8 rfl ?_
   refine aN rfl (fun h35 => ?_) (fun h35 => ?_)
   ·refine fH aD 12 rfl (by omega) ?_
    refine ai (sk p n cap cf fs cs S key Pd hb hf hn2 _ l2 A (A + bs) (2 * bs + A) (Nat.le_refl _) (by omega) (by omega) (by omega) (hR2.pd (Nat.le_refl _) hpd) (hBr.two hA (by omega)).1 (hBr.two hA (by omega)).2) V.AF  rfl (bF .nil) rfl ?_
    rintro _ _ ⟨rfl, l3, hr3, nu, rfl⟩
    refine cQ aD 16 rfl (by omega) ?_
    rw [show ((2 * bs + A : Nat) : Int) + 2 * (bs : Int) = ((2 * bs + (2 * bs + A) : Nat) : Int) by omega]
    exact j2 (2 * bs + A) _ ⟨⟨Nat.dvd_add (Nat.dvd_refl _) hA, by omega, hR2.trans (hr3.wide (Nat.zero_le _) (by omega)), hBd.step hA hr3 nu, hBr.step (by omega) hr3⟩, by omega⟩ (kQ (dp ln)) (sub (bF .nil) aw)
   ·refine fH aD 21 rfl (by omega) ?_
    refine aN rfl (fun h54 => ?_) (fun h54 => ?_)
    ·refine rC aD 6 rfl ?_
     refine ai (sk p n cap cf fs cs S key Pd hb hf hn2 _ l2 A (A + bs) n (Nat.le_refl _) (by omega) (by omega) (by omega) (hR2.pd (Nat.le_refl _) hpd) (hBr.last hA (by omega) (by omega)).1 (hBr.last hA (by omega) (by omega)).2) V.AF  rfl (bF .nil) rfl ?_
     rintro _ _ ⟨rfl, l3, hr3, nu, rfl⟩
     refine cQ aD 8 rfl (by omega) ?_
     rw [show (bs : Int) * 2 = ((2 * bs : Nat) : Int) by omega]
     exact j2 (2 * bs) _ ⟨⟨by omega, hR2.trans (hr3.wide (Nat.zero_le _) (Nat.le_refl _)), hBd.fin hA (by omega) (by omega) hr3 nu⟩, by omega⟩ (fo ln) (sub (bF .nil) aw)
    ·refine fH aD 8 rfl (by omega) ?_
     rw [show (bs : Int) * 2 = ((2 * bs : Nat) : Int) by omega]
     exact j2 (2 * bs) _ ⟨⟨by omega, hR2, hBd.fin hA (by omega) (by omega) (dv.Rl.refl _ _ _) (hBr.one hA (by omega))⟩, by omega⟩ (fo ln) (sub (bF .nil) aw)
  ·refine rC aD 4 rfl ?_
   exact jb fI ⟨rfl, l1, hR1, hBk.all (by omega), rfl⟩ (sub (bF .nil) aw)
theorem Il (p : Option Addr) (n cap : Nat) (cf : Nat) (fs cs : List Value) (S : ad) (key : Int → Int) (Pd : Int → Prop) (hb : aH Tryz.prog cf = true) (hf : ∀ x y, Pd x → Pd y → aG Tryz.prog cf (fs ++ [.int .i64 x, .int .i64 y] ++ cs) [S] (aQ fun v G => v = .int .i64 (mG (key x) (key y)) ∧ G = [S])) (l : List Int) (hn2 : n ≤ 1000000) (hpd : ∀ i, i < n → Pd (l.getD i I3.d)) : aG Tryz.prog 216 [.slice p n cap, .func (.func cf) fs.toArray cs.toArray] [Row I3 p n cap (l), S] (aQ fun v G => v = .tuple #[] ∧ ∃ l2, dv.Rl key I3.d l l2 0 n ∧ dv.Sd key I3.d l2 0 n ∧ G = [Row I3 p n cap (l2), S]) := by
 refine av [(0, _), (1, _)] Tryz.func216 rfl Tryz.ntmps216 rfl rfl ?_
 intro w0 F
 refine rT aD 5 rfl ?_
 refine ai (Df p n cap cf fs cs S key Pd hb hf l hn2 hpd) V.Qz  rfl (bF .nil) rfl ?_
 rintro _ _ ⟨rfl, l3, hr3, nu, rfl⟩
 refine cW ?_
 exact jb fI ⟨rfl, l3, hr3, nu, rfl⟩ (sub (bF .nil) aw)
end Go.Proofs.YtmaiakpjgomnpaaGreat
namespace Go.Proofs.YtmaiakpjgomnpaaGreat
open Go.Sl 
theorem fQ : dU Tryz.prog ⟨[], []⟩ = true := by kernel_rfl
theorem yO (x : Int) : aG Tryz.prog 230 [.int .i64 x] [] (aQ fun v G => v = .bool false ∧ G = []) := by
 refine av [(0, _)] Tryz.func230 rfl Tryz.ntmps230 rfl rfl ?_
 intro w0 F
 refine rT fQ 14 rfl ?_
 exact ak (aC rfl) ⟨by simp, rfl⟩ (sub .nil aw)
theorem CU (x y : Int) : aG Tryz.prog 218 [.int .i64 x, .int .i64 y] [] (aQ fun v G => v = .int .i64 (mG x y) ∧ G = []) := by
 refine av [(0, _), (1, _)] Tryz.func218 rfl Tryz.ntmps218 rfl rfl ?_
 intro w0 F
 refine rT fQ 8 rfl ?_
 refine ai (yO x) V.L7  rfl .nil rfl ?_
 rintro _ _ ⟨rfl, rfl⟩
 refine rO fQ 6 rfl ?_
 refine ai (yO y) V.L7  rfl .nil rfl ?_
 rintro _ _ ⟨rfl, rfl⟩
 refine rO fQ 29 rfl ?_
 refine aN rfl (fun h16 => ?_) (fun h16 => ?_)
 ·refine rC fQ 7 rfl ?_
  exact ak (aC rfl) ⟨by rw [mG, if_pos (by assumption)], rfl⟩ (sub .nil aw)
 ·refine rC fQ 10 rfl ?_
  refine aN rfl (fun h19 => ?_) (fun h19 => ?_)
  ·refine rC fQ 7 rfl ?_
   exact ak (aC rfl) ⟨by rw [mG, if_neg (by assumption), if_pos (by omega)], rfl⟩ (sub .nil aw)
  ·refine rC fQ 8 rfl ?_
   exact ak (aC rfl) ⟨by rw [mG, if_neg (by assumption), if_neg (by omega)], rfl⟩ (sub .nil aw)
theorem L5 (p : Option Addr) (n cap : Nat) (ls : List Int) (R : ad) (hR : ∀ w0 h, R w0 h → aS I3 p n ls w0 h) (bL : Nat) (x y : Int) (hx : 0 ≤ x ∧ x < n) (hy : 0 ≤ y ∧ y < n) : aG Tryz.prog 217 [.int .i64 x, .int .i64 y, .pointer (some ⟨bL, 0, none⟩)] [ao bL 47 [.slice p n cap], R] (aQ fun v G => v = .int .i64 (mG (ls.getD x.toNat 0) (ls.getD y.toNat 0)) ∧ G = [ao bL 47 [.slice p n cap], R]) := by
 refine av [(0, _), (1, _), (2, _)] Tryz.func217 rfl Tryz.ntmps217 rfl rfl ?_
 intro w0 F
 refine rT fQ 6 rfl ?_
 refine wN [pz 0 [] [2], pz 0 [] [0], pz 3 [0, 1] [], pz 7 [2] [], pz 0 [] [2], pz 0 [] [1], pz 48 [4, 5] [], pz 112 [6] [], pz 255 [3, 7] [], pz 511 [8] []] [⟨fun y => ao bL 47 [.slice p n cap], none, none, [0, 4]⟩, ⟨fun y => R, none, none, [2, 3, 6, 7]⟩] F V.mixed ?_
 refine nR (fun y FF hA => ae V.lg rfl an rfl) ?_
 refine nM ?_
 refine nR (fun y FF hA => xI V.cT (by exact bE hR an)) ?_
 refine nR (fun y FF hA => xL V.s3 (by exact bE hR an)) ?_
 refine nR (fun y FF hA => ae V.lg rfl an rfl) ?_
 refine nM ?_
 refine nR (fun y FF hA => xI V.cT (by exact bE hR an)) ?_
 refine nR (fun y FF hA => xL V.s3 (by exact bE hR an)) ?_
 refine nE (fun y FF hA => bO (Post := []) (CU _ _) V.PM rfl .nil (fun v G h => by rcases h with ⟨rfl, rfl⟩; exact ⟨rfl, .refl _⟩)) ?_
 refine nA ?_
 refine aX ?_
 intro y hA
 clear hA
 refine bN ?_
 refine cu _ (.cons (d := 5) rfl (.nil _)) ?_
 refine bS (M := ao bL 47 [.slice p n cap] :: R :: F) (fun _ _ h => h) ?_
 refine rC fQ 1 rfl ?_
 exact ak (aC rfl) ⟨rfl, rfl⟩ (sub (bF .nil) aw)
theorem Iz (C : List Int) (all : Int) (hl : C.length = 16) (hC : ∀ i, 0 ≤ C.getD i 0 ∧ C.getD i 0 ≤ 320) : aG Tryz.prog 215 [.agg (ints .i64 C).toArray, .int .i64 all] [] (aQ fun v G => v = .bool (af.gM C all) ∧ G = []) := by
 refine av [(0, _), (1, _)] Tryz.func215 rfl Tryz.ntmps215 rfl rfl ?_
 intro w0 F
 refine rT fQ 2 rfl ?_
 refine eN rfl (wc _ _) rfl ?_
 intro b2
 refine rO fQ 15 rfl ?_
 refine eb (fun (k : Nat) => [(1, .int .i64 all), (2, .pointer (some ⟨b2, 0, none⟩)), (5, .int .i64 (af.left C k)), (6, .int .i64 ((k : Int) + 1))]) (fun (k : Nat) => ao b2 229 (CA [] .i64 C []) :: F) (fun (k : Nat) => k ≤ 15 ∧ ∀ m, 1 ≤ m → m ≤ k → 0 ≤ af.left C m) (fun (k : Nat) => 15 - k) (i1 (0) ?_ (fo ln) (sub (ar .nil) aw)) ?_
 ·exact ⟨by omega, fun m h1 h2 => by omega⟩
 intro k
 rintro ⟨hk, hno⟩
 have hcc := hC ((k : Int) + 1).toNat
 have hlb := af.AS (fun i => (hC i).1) hk
 have hl0 := af.Iu hno
 have hlen : C.length = 16 := hl
 refine rL fQ 7 rfl ?_
 refine aN rfl (fun h8 => ?_) (fun h8 => ?_)
 ·refine fH fQ 9 rfl (by omega) ?_
  refine oV (im (k + 1) rfl V.oN rfl rfl (by omega)) ?_
  refine oV (nj ((k : Int) + 1) V.s3 rfl an (by (simp only [List.length_cons, List.length_nil]; omega)) (by omega) (by omega)) ?_
  refine cQ fQ 10 rfl (by omega) ?_
  refine aN rfl (fun h18 => ?_) (fun h18 => ?_)
  ·refine rC fQ 11 rfl ?_
   exact ak (aC rfl) ⟨by rw [af.yk (n := k + 1) (by omega) (by omega) (by rw [← af.qF]; exact h18)], rfl⟩ (sub .nil cD)
  ·refine fH fQ 8 rfl (by omega) ?_
   have hno2 := af.Cq hno h18
   rw [af.qF]
   exact j1 (k + 1) ⟨⟨by omega, hno2⟩, by omega⟩ (fo ln) (sub (ar .nil) aw)
 ·refine rC fQ 10 rfl ?_
  refine ld 21 rfl (fun h21 => ?_) (fun h21 => ?_)
  ·refine rO fQ 16 rfl ?_
   exact ak (aC rfl) ⟨by rw [af.nO hk h8 hno]; (simp [h21]; done), rfl⟩ (sub .nil cD)
  ·refine rO fQ 4 rfl ?_
   refine ld 25 rfl (fun h25 => ?_) (fun h25 => ?_)
   ·refine rO fQ 12 rfl ?_
    exact ak (aC rfl) ⟨by rw [af.nO hk h8 hno]; (simp [h21, h25]; done), rfl⟩ (sub .nil cD)
   ·refine rO fQ 3 rfl ?_
    refine ld 28 rfl (fun h28 => ?_) (fun h28 => ?_)
    ·refine ag rfl ?_
     refine oV (im 1 rfl V.oN rfl rfl (by omega)) ?_
     refine ag rfl ?_
     refine oV (nj (1 : Int) V.s3 rfl an (by (simp only [List.length_cons, List.length_nil]; omega)) (by omega) (by omega)) ?_
     refine rO fQ 7 rfl ?_
     exact ak (aC rfl) ⟨by rw [af.nO hk h8 hno]; (simp [h21, h25, h28]; done), rfl⟩ (sub .nil cD)
    ·refine rO fQ 9 rfl ?_
     exact ak (aC rfl) ⟨by rw [af.nO hk h8 hno]; (simp [h21, h25, h28]; done), rfl⟩ (sub .nil cD)
end Go.Proofs.YtmaiakpjgomnpaaGreat
namespace Go.Proofs.YtmaiakpjgomnpaaGreat
open Go.Sl 
theorem dP : dU Tryz.prog ⟨[47], [(275, 0, 0), (275, 2, 17), (275, 3, 18)]⟩ = true := by kernel_rfl
attribute [local irreducible] af.ord af.iV af.dR af.cM af.dj af.words af.fV af.lenOf af.cg af.left af.gM
set_option maxHeartbeats 1000000 in
theorem Hg (p : Option Addr) (cap : Nat) (ls : List Int) (R : ad) (hR : ∀ w0 h, R w0 h → aS I3 p ls.length ls w0 h) : aG Tryz.prog 195 [.slice p ls.length cap] [R] (aQ fun v G => (af.cg ls = 0 ∧ ∃ b, v = .tuple #[.pointer (some ⟨b, 0, none⟩), .int .i64 0] ∧ G = [HC b ls, R]) ∨ (af.cg ls ≠ 0 ∧ v = .tuple #[.pointer none, .int .i64 (af.cg ls)] ∧ G = [R])) := by
 refine av [(0, _)] Tryz.func195 rfl Tryz.ntmps195 rfl rfl ?_
 intro w0 F
 refine rT dP 2 rfl ?_
 refine eN rfl (cs := [_]) rfl rfl ?_
 intro b1
 refine rO dP 7 rfl ?_
 refine oV (ae V.lg rfl an rfl) ?_
 refine rO dP 4 rfl ?_
 refine aN rfl (fun h13 => ?_) (fun h13 => ?_)
 ·refine rC dP 8 rfl ?_
  exact ak (fD rfl rfl) (.inr ⟨by rw [af.vx (by omega)]; decide, by rw [af.vx (by omega)], rfl⟩) (sub (.cons ay .nil) cD)
 ·refine rC dP 4 rfl ?_
  refine oV (ae V.lg rfl an rfl) ?_
  refine oV (ez (ty' := 0) Tryz.underlying47 rfl) ?_
  refine om ls.length ls.length (qf) rfl rfl V.GJ V.ML rfl rfl rfl rfl (by omega) (by omega) rfl rfl ?_
  intro b16
  refine oV (cB V.NZ V.QL rfl (cs := [_, _, _, _, _, _, _, _, _, _, _, _, _, _, _, _, _, _, _]) rfl) ?_
  refine eN rfl (show _ = CA [.slice (some ⟨b16, 0, none⟩) ls.length ls.length] .i64 (af.cM (ls.take 0)) [.slice none (af.dR (ls.take 0)).length 0, .int .i64 (af.dj (ls.take 0))] from by rw [List.take_zero, af.FP, af.wi, af.D5]; rfl) rfl ?_
  intro b18
  refine rO dP 6 rfl ?_
  refine oV (ae V.lg rfl dJ rfl) ?_
  refine rO dP 5 rfl ?_
  refine gp (Row I3 none (af.dR (ls.take 0)).length 0 (af.dR (ls.take 0))) (by rw [List.take_zero, af.wi]; exact Row.nil _ _ _) ?_
  refine iR (fun (k : Nat) (po : Option Addr) (co : Nat) => [(1, .pointer (some ⟨b1, 0, none⟩)), (4, .pointer (some ⟨b18, 0, none⟩)), (19, .slice p ls.length cap), (20, .int .i64 (ls.length : Int)), (21, .int .i64 (k : Int))]) (fun (k : Nat) (po : Option Addr) (co : Nat) => ao b18 275 (CA [.slice (some ⟨b16, 0, none⟩) ls.length ls.length] .i64 (af.cM (ls.take k)) [.slice po (af.dR (ls.take k)).length co, .int .i64 (af.dj (ls.take k))]) :: Row I3 po (af.dR (ls.take k)).length co (af.dR (ls.take k)) :: Row qf (some ⟨b16, 0, none⟩) ls.length ls.length (List.replicate ls.length (0, 0)) :: ao b1 47 [.slice p ls.length cap] :: R :: F) (fun (k : Nat) (po : Option Addr) (co : Nat) => k ≤ ls.length ∧ ∀ i, i < k → 0 ≤ ls.getD i 0 ∧ ls.getD i 0 ≤ 15) (fun (k : Nat) (po : Option Addr) (co : Nat) => ls.length - k) (i3 (0) (none) (0) ?_ (dp ln) (sub (.cons ay (nH .nil)) aw)) ?_
  ·exact ⟨by omega, fun i hi => by omega⟩
  intro k po co
  rintro ⟨hk, hok⟩
  refine rL dP 6 rfl ?_
  refine aN rfl (fun h22 => ?_) (fun h22 => ?_)
  ·refine rC dP 7 rfl ?_
   refine oV (xI V.cT (by exact bE hR jF)) ?_
   refine oV (xL V.s3 (by exact bE hR jF)) ?_
   refine rO dP 6 rfl ?_
   have hk2 : k < ls.length := by omega
   have hg : I3.g ls (k : Int) = ls.getD k 0 := by simp [Ec.g]
   have hg2 : ls.getD k 0 = ls[k] := by simp [hk2]
   have htk : (ls.take k).length = k := by rw [List.length_take]; omega
   have hcl := af.ko (ls.take k)
   have hcb := af.px (ls := ls.take k) (by omega) (I3.g ls (k : Int)).toNat
   have hpl2 := af.u0 (ls.take k)
   refine rC dP 4 rfl ?_
   refine ld 28 rfl (fun h28 => ?_) (fun h28 => ?_)
   ·refine rO dP 19 rfl ?_
    exact ak (fD rfl rfl) (.inr ⟨by rw [af.pg (by omega) hk2 (by omega)]; decide, by rw [af.pg (by omega) hk2 (by omega)], rfl⟩) (sub (.cons ig .nil) mI)
   ·refine rO dP 5 rfl ?_
    refine aN rfl (fun h31 => ?_) (fun h31 => ?_)
    ·refine rC dP 13 rfl ?_
     exact ak (fD rfl rfl) (.inr ⟨by rw [af.pg (by omega) hk2 (by omega)]; decide, by rw [af.pg (by omega) hk2 (by omega)], rfl⟩) (sub (.cons ig .nil) mI)
    ·refine rC dP 8 rfl ?_
     refine aN rfl (fun h33 => ?_) (fun h33 => ?_)
     ·refine rC dP 1 rfl ?_
      refine wN [pz 0 [] [4], pz 0 [] [6], pz 1 [0] [], pz 5 [2] [], pz 15 [3, 1] [], pz 31 [4] [], pz 63 [5] [], pz 1 [0] [], pz 129 [7] [], pz 511 [8, 1] [], pz 1023 [9, 6] []] [⟨fun y => ao b18 275 (CA [.slice (some ⟨b16, 0, none⟩) ls.length ls.length] .i64 (af.cM (ls.take k)) [.slice po (af.dR (ls.take k)).length co, .int .i64 (af.dj (ls.take k))]), none, some 10, [5]⟩, ⟨fun y => Row I3 po (af.dR (ls.take k)).length co (af.dR (ls.take k)), none, none, []⟩, ⟨fun y => Row qf (some ⟨b16, 0, none⟩) ls.length ls.length (List.replicate ls.length (0, 0)), none, none, []⟩, ⟨fun y => ao b1 47 [.slice p ls.length cap], none, none, []⟩, ⟨fun y => R, none, none, []⟩, ⟨fun y => ao b18 275 (CA [.slice (some ⟨b16, 0, none⟩) ls.length ls.length] .i64 ((af.cM (ls.take k)).set (((I3.g ls (k : Int))).toNat) (((af.cM (ls.take k)).getD (((I3.g ls (k : Int))).toNat) 0) + 1)) [.slice po (af.dR (ls.take k)).length co, .int .i64 (af.dj (ls.take k))]), some 10, none, []⟩] F V.mixed ?_
      iterate 2 refine nM ?_
      refine nN ?_
      refine nG V.wE ?_
      refine nV (fun y hA L => im (((I3.g ls (k : Int))).toNat) (by omega) V.oN rfl rfl (by omega)) ?_
      refine nR (fun y FF hA => nj (I3.g ls (k : Int)) V.s3 rfl an (by (simp only [List.length_cons, List.length_nil]; omega)) (by omega) (by omega)) ?_
      refine nV (fun y hA L => du rfl rfl wI) ?_
      refine nN ?_
      refine nG V.wE ?_
      refine nV (fun y hA L => im (((I3.g ls (k : Int))).toNat) (by omega) V.oN rfl rfl (by omega)) ?_
      refine nE (fun y FF hA => dC (zm (I3.g ls (k : Int)) V.s3 rfl rfl (by exact cY) (by (simp only [List.length_cons, List.length_nil]; omega)) (by omega) (by omega)) ⟨rfl, .refl _⟩) ?_
      refine aX ?_
      intro y hA
      clear hA
      refine bN ?_
      refine cu _ (.cons (d := 1) rfl (.cons (d := 4) rfl (.cons (d := 5) rfl (.cons (d := 6) rfl (.cons (d := 19) rfl (.cons (d := 20) rfl (.cons (d := 21) rfl (.nil _)))))))) ?_
      refine bS (M := Row I3 po (af.dR (ls.take k)).length co (af.dR (ls.take k)) :: Row qf (some ⟨b16, 0, none⟩) ls.length ls.length (List.replicate ls.length (0, 0)) :: ao b1 47 [.slice p ls.length cap] :: R :: ao b18 275 (CA [.slice (some ⟨b16, 0, none⟩) ls.length ls.length] .i64 ((af.cM (ls.take k)).set (((I3.g ls (k : Int))).toNat) (((af.cM (ls.take k)).getD (((I3.g ls (k : Int))).toNat) 0) + 1)) [.slice po (af.dR (ls.take k)).length co, .int .i64 (af.dj (ls.take k))]) :: F) (fun _ _ h => h) ?_
      refine rC dP 6 rfl ?_
      refine oV (lM (n := 16) 0 V.lg rfl jF (by (simp only [List.length_set]; omega)) rfl rfl) ?_
      refine oV (aK rfl) ?_
      refine cV (I3) [(k : Int)] V.cT V.z3 rfl rfl rfl rfl rfl rfl ?_
      intro b50
      refine dw (c := (I3)) V.cT V.z3 rfl rfl rfl rfl ay (own an) (by omega) rfl ?_
      intro p51 c51
      refine rO dP 2 rfl ?_
      refine aU (wT (n := 16) 0 V.lg rfl rfl rfl (by exact DP) (by (simp only [List.length_set]; omega)) rfl (by exact Nat.le_of_ble_eq_true rfl) rfl) ?_
      refine rO dP 7 rfl ?_
      refine oV (lM (n := 16) 1 V.s3 rfl O5 (by (simp only [List.length_set]; omega)) rfl rfl) ?_
      refine oV (aK rfl) ?_
      refine oV (Ap rfl rfl) ?_
      refine rO dP 2 rfl ?_
      refine aU (wT (n := 16) 1 V.s3 rfl rfl rfl (by exact DP) (by (simp only [List.length_set]; omega)) rfl (by exact Nat.le_of_ble_eq_true rfl) rfl) ?_
      refine cQ dP 7 rfl (by omega) ?_
      have hok2 := af.zd hok (by omega)
      (obtain ⟨e1, e2, e3, e4⟩ := af.step_pos hk2 (hg.trans hg2) (by omega) (by omega); rw [e1, e2, e3, e4]; exact j3 (k + 1) _ _ ⟨⟨by omega, hok2⟩, by omega⟩ (dp ln) (sub (.cons kb (ar (.cons ay (.cons ay (.cons ay .nil))))) cD))
     ·refine fH dP 7 rfl (by omega) ?_
      have hok2 := af.zd hok (by omega)
      (obtain ⟨e1, e2, e3⟩ := af.BU hk2 (hg.trans hg2) (by omega); rw [← e1, ← e2, ← e3]; exact j3 (k + 1) _ _ ⟨⟨by omega, hok2⟩, by omega⟩ (dp ln) (sub (pF .nil) aw))
  ·refine rC dP 7 rfl ?_
   have hkn : k = ls.length := by omega
   subst hkn
   rw [List.take_length] at *
   have hvv := af.I2 hok (Nat.le_refl _)
   have hcl := af.ko ls
   have hE0 := af.Jg (by omega) hvv
   refine wN [pz 0 [] [4], pz 1 [0] [], pz 3 [1] [], pz 7 [2] [], pz 0 [] [4], pz 16 [4] [], pz 48 [5] [], pz 112 [6] [], pz 240 [7] [], pz 511 [3, 8] [], pz 1023 [9] []] [⟨fun y => ao b18 275 (CA [.slice (some ⟨b16, 0, none⟩) ls.length ls.length] .i64 (af.cM ls) [.slice po (af.dR ls).length co, .int .i64 (af.dj ls)]), none, none, [3, 7]⟩, ⟨fun y => Row I3 po (af.dR ls).length co (af.dR ls), none, none, []⟩, ⟨fun y => Row qf (some ⟨b16, 0, none⟩) ls.length ls.length (List.replicate ls.length (0, 0)), none, none, []⟩, ⟨fun y => ao b1 47 [.slice p ls.length cap], none, none, []⟩, ⟨fun y => R, none, none, []⟩] F V.mixed ?_
   refine nM ?_
   refine nN ?_
   refine nG V.wE ?_
   refine nR (fun y FF hA => Dz V.a229 rfl an (by omega) rfl) ?_
   refine nM ?_
   refine nN ?_
   refine nG V.KL ?_
   refine nR (fun y FF hA => lM (n := 16) 0 V.lg rfl an (by omega) rfl rfl) ?_
   refine nV (fun y hA L => ez (ty' := 0) Tryz.underlying47 rfl) ?_
   refine nE (fun y FF hA => bO (Post := []) (Iz (af.cM ls) _ (af.ko _) (af.px (by omega))) V.P5 rfl .nil (fun v G h => by rcases h with ⟨rfl, rfl⟩; exact ⟨rfl, .refl _⟩)) ?_
   refine nV (fun y hA L => mL rfl) ?_
   refine aX ?_
   intro y hA
   clear hA
   refine bN ?_
   refine cu _ (.cons (d := 1) rfl (.cons (d := 4) rfl (.cons (d := 74) rfl (.nil _)))) ?_
   refine bS (M := ao b18 275 (CA [.slice (some ⟨b16, 0, none⟩) ls.length ls.length] .i64 (af.cM ls) [.slice po (af.dR ls).length co, .int .i64 (af.dj ls)]) :: Row I3 po (af.dR ls).length co (af.dR ls) :: Row qf (some ⟨b16, 0, none⟩) ls.length ls.length (List.replicate ls.length (0, 0)) :: ao b1 47 [.slice p ls.length cap] :: R :: F) (fun _ _ h => h) ?_
   refine ti rfl (fun h74 => ?_) (fun h74 => ?_)
   ·refine rC dP 1 rfl ?_
    have hE : af.cg ls = 4 := by rw [hE0, if_neg (by simpa using h74)]
    refine rC dP 7 rfl ?_
    exact ak (fD rfl rfl) (.inr ⟨by rw [hE]; decide, by rw [hE], rfl⟩) (sub (.cons ig .nil) mI)
   ·refine rC dP 3 rfl ?_
    have hE : af.cg ls = 0 := by rw [hE0, if_pos (by simpa using h74)]
    have hV := (af.lS hE).1
    have hW := (af.lS hE).2
    have hpl := af.wJ hV
    have hpn := af.u0 ls
    refine Mp (A := [ao b1 47 [.slice p ls.length cap], R]) (.cons dI (.cons dI .nil)) ?_
    refine rC dP 4 rfl ?_
    refine oV (lM (n := 16) 0 V.lg rfl bW (by omega) rfl rfl) ?_
    refine oV (AU (fs := []) (cs := [_]) rfl rfl) ?_
    refine ai (Il po (af.dR ls).length co 217 [] [.pointer (some ⟨b1, 0, none⟩)] (pV [ao b1 47 [.slice p ls.length cap], R]) (af.key ls) (fun x => 0 ≤ x ∧ x < ls.length) V.Qf (fun x y hx hy => (L5 p ls.length cap ls R hR b1 x y hx hy).star) (af.dR ls) (by omega) (af.HF ls)) V.QB  rfl (.cons bX (ar .nil)) rfl ?_
    rintro _ _ ⟨rfl, l2, hR2, hS2, rfl⟩
    obtain rfl := af.EL hvv hR2 hS2
    refine rO dP 3 rfl ?_
    refine D1 ay ?_
    rw [hpl]
    refine rC dP 11 rfl ?_
    refine oV (lM (n := 16) 0 V.lg rfl eG (by omega) rfl rfl) ?_
    refine rO dP 5 rfl ?_
    rw [← af.yx]
    refine eb (fun (k : Nat) => [(1, .pointer (some ⟨b1, 0, none⟩)), (4, .pointer (some ⟨b18, 0, none⟩)), (7, .int .i64 (af.wj ls k)), (8, .int .i64 (af.nC ls k)), (84, .slice po (af.ord ls).length co), (85, .int .i64 ((af.ord ls).length : Int)), (86, .int .i64 (k : Int))]) (fun (k : Nat) => ao b18 275 (CA [.slice (some ⟨b16, 0, none⟩) ls.length ls.length] .i64 (af.cM ls) [.slice po (af.ord ls).length co, .int .i64 (af.dj ls)]) :: Row I3 po (af.ord ls).length co (af.ord ls) :: Row qf (some ⟨b16, 0, none⟩) ls.length ls.length (af.iV ls k) :: ao b1 47 [.slice p ls.length cap] :: R :: F) (fun (k : Nat) => k ≤ (af.ord ls).length) (fun (k : Nat) => (af.ord ls).length - k) (i1 (0) ?_ (kG (dp ln)) (sub (.cons dI (.cons bX (.cons bX (bF .nil)))) aw)) ?_
    ·exact Nat.zero_le _
    intro k
    rintro hk
    refine rL dP 6 rfl ?_
    refine aN rfl (fun h87 => ?_) (fun h87 => ?_)
    ·refine rC dP 5 rfl ?_
     have hk2 : k < (af.ord ls).length := by omega
     obtain ⟨s, hs⟩ := af.Qb hW hk2
     have hgs : I3.g (af.ord ls) (k : Int) = (s : Int) := by rw [← hs.sym]; simp [Ec.g]
     have hsl := hs.lt
     refine bK ?_
     refine oV (xI V.cT (own bW)) ?_
     refine oV (xL V.s3 (own bW)) ?_
     refine rO dP 4 rfl ?_
     rw [hgs]
     have hls : I3.g ls (s : Int) = (af.lenOf ls s : Int) := by rw [← hs.len]; simp [Ec.g]
     have hs1 := hs.top
     have hs2 := hs.nn
     have nu := hs.ge
     have hs4 := hs.w0
     have hs5 : af.fV ls s < 32768 := by have := af.qv hs.top; have := hs.w1; omega
     refine rC dP 2 rfl ?_
     refine oV (ae V.lg rfl eG rfl) ?_
     refine oV (aK rfl) ?_
     refine oV (xI V.cT (by exact bE hR jF)) ?_
     refine oV (xL V.s3 (by exact bE hR jF)) ?_
     refine cQ dP 2 rfl (by omega) ?_
     refine oV (gb (r := af.fV ls s) rfl rfl (by omega) (Fq hs hls)) ?_
     refine rO dP 5 rfl ?_
     refine oV (ae V.lg rfl eG rfl) ?_
     refine oV (aK rfl) ?_
     refine oV (xI V.cT (by exact bE hR jF)) ?_
     refine oV (xL V.s3 (by exact bE hR jF)) ?_
     refine rO dP 4 rfl ?_
     rw [hls]
     refine rC dP 4 rfl ?_
     refine oV (ae V.PJ rfl an rfl) ?_
     refine rO dP 3 rfl ?_
     refine oV (cB V.Ow V.ML rfl (cs := [_, _]) rfl) ?_
     refine oV (xI V.GJ (own dJ)) ?_
     refine aU (Fi (c := (qf)) ((af.fV ls s, (af.lenOf ls s : Int))) V.QH rfl rfl (by exact ni) (by omega) (by omega) rfl) ?_
     refine cQ dP 13 rfl (by omega) ?_
     have en : af.fV ls s + 1 = af.wj ls (k + 1) := by simp only [af.wj]; rw [hs.sym]; simp
     have el : (af.lenOf ls s : Int) = af.nC ls (k + 1) := by simp only [af.nC]; rw [hs.sym]; simp
     rw [Int.toNat_natCast, ← af.yA hk2 hs, en, el]
     refine j1 (k + 1) ?_ (kG (dp ln)) (sub (pF .nil) aw)
     exact ⟨by omega, by omega⟩
    ·refine rC dP 13 rfl ?_
     exact ak (fD rfl rfl) (.inl ⟨hE, b18, rfl, rfl⟩) ((aV (ar (.cons ay (.cons dQ .nil))) aw (fun w0 h hh => pf (af.A6 hV (by omega)) hh)).trans (sub (ar (.cons ay .nil)) cD))
end Go.Proofs.YtmaiakpjgomnpaaGreat
namespace Go.Proofs.YtmaiakpjgomnpaaGreat
open Go.Sl 
theorem eK : dU Tryz.prog ⟨[], [(156, 2, 2), (236, 0, 0)]⟩ = true := by kernel_rfl
theorem oz (p : Option Addr) (cap : Nat) (B : List Int) (R : ad) (hR : ∀ w0 h, R w0 h → aS U5 p B.length B w0 h) (hl : B.length < 500000000) : aG Tryz.prog 91 [.slice p B.length cap] [R] (aQ fun v G => ∃ q c, v = .slice q B.length c ∧ G = [Row U5 q B.length c B, R]) := by
 refine av [(0, _)] Tryz.func91 rfl Tryz.ntmps91 rfl rfl ?_
 intro w0 F
 refine gY (fun w hi => Ky (List.mem_cons_self ..) hR hi) (fun hp => ?_)
 refine rT eK 9 rfl ?_
 refine oV (FH Tryz.underlying22 rfl rfl) ?_
 refine rO eK 2 rfl ?_
 refine ti rfl (fun h4 => ?_) (fun h4 => ?_)
 ·refine rC eK 7 rfl ?_
  obtain rfl : p = none := by cases p with | none => rfl | some _ => simp at h4
  obtain rfl : B = [] := hp rfl
  exact ak (aC rfl) ⟨none, 0, rfl, rfl⟩ ((ej (fun w0 => Row.nil _ _ _)).trans (sub (bF .nil) aw))
 ·refine rC eK 4 rfl ?_
  refine cV (U5) [] V.bY V.z5 rfl rfl rfl rfl rfl rfl ?_
  intro b5
  refine oV (aK rfl) ?_
  refine dw (c := (U5)) V.bY V.z5 rfl rfl rfl rfl dQ (by exact bE hR bW) (by omega) rfl ?_
  intro p7 c7
  refine rO eK 4 rfl ?_
  exact ak (aC rfl) ⟨p7, c7, by rw [Nat.zero_add], by rw [Nat.zero_add, List.nil_append]⟩ (sub (bF .nil) aw)
theorem xU (b : Nat) (B : List Int) (at_ : Nat) (out : List Int) (free : Int) (hl : B.length < 500000000) (ha : at_ ≤ 8 * B.length) : aG Tryz.prog 128 [.pointer (some ⟨b, 0, none⟩)] [LW b B at_ out free] (aQ fun v G => v = .int .i64 (8 * (B.length : Int) - (at_ : Int)) ∧ G = [LW b B at_ out free]) := by
 refine av [(0, _)] Tryz.func128 rfl Tryz.ntmps128 rfl rfl ?_
 intro w0 F
 refine gD (fun h hh => hh) ?_
 rintro ⟨p1, c1, p2, c2⟩ _
 dsimp only
 refine rT eK 6 rfl ?_
 refine wN [pz 0 [] [0], pz 1 [0] [], pz 3 [1] [], pz 7 [2] [], pz 15 [3] [], pz 31 [4] [], pz 0 [] [0], pz 64 [6] [], pz 192 [7] [], pz 448 [8] [], pz 1023 [5, 9] [], pz 2047 [10] []] [⟨fun y => ao b 236 [.slice p1 B.length c1, .slice p2 out.length c2, .int .i64 (at_ : Int), .int .i64 free], none, none, [3, 9]⟩, ⟨fun y => Row U5 p1 B.length c1 B, none, none, []⟩, ⟨fun y => Row U5 p2 out.length c2 out, none, none, []⟩] F V.mixed ?_
 refine nM ?_
 refine nN ?_
 refine nG V.CX ?_
 refine nR (fun y FF hA => ae V.eC rfl an rfl) ?_
 refine nV (fun y hA L => ez (ty' := 0) Tryz.underlying22 rfl) ?_
 refine nV (fun y hA L => jv rfl rfl wI) ?_
 refine nM ?_
 refine nN ?_
 refine nG V.wA ?_
 refine nR (fun y FF hA => ae V.s3 rfl an rfl) ?_
 refine nV (fun y hA L => fT rfl rfl wI) ?_
 refine nA ?_
 refine aX ?_
 intro y hA
 clear hA
 refine bN ?_
 refine cu _ (.cons (d := 2) rfl (.nil _)) ?_
 refine bS (M := ao b 236 [.slice p1 B.length c1, .slice p2 out.length c2, .int .i64 (at_ : Int), .int .i64 free] :: Row U5 p1 B.length c1 B :: Row U5 p2 out.length c2 out :: F) (fun _ _ h => h) ?_
 refine rC eK 1 rfl ?_
 exact ak (aC rfl) ⟨rfl, rfl⟩ (aV (gm .nil) aw (fun w0 h hh => o0 hh))
theorem NH (b : Nat) (B : List Int) (at_ : Nat) (out : List Int) (free : Int) (n : Int) (hl : B.length < 500000000) (ha : at_ ≤ 8 * B.length) (hn : 0 ≤ n ∧ n ≤ 24 ∧ n ≤ 8 * (B.length : Int) - at_) : aG Tryz.prog 92 [.pointer (some ⟨b, 0, none⟩), .int .i64 n] [LW b B at_ out free] (aQ fun v G => v = .tuple #[] ∧ G = [LW b B at_ out free]) := by
 refine av [(0, _), (1, _)] Tryz.func92 rfl Tryz.ntmps92 rfl rfl ?_
 intro w0 F
 refine rT eK 3 rfl ?_
 refine oV (aA (bu rfl rfl) (by omega)) ?_
 refine rO eK 2 rfl ?_
 refine ag rfl ?_
 refine oV (aA (bd rfl rfl) (by omega)) ?_
 refine rO eK 4 rfl ?_
 refine ag rfl ?_
 refine ai (xU b B at_ out free hl ha) V.Ad  rfl (ar .nil) rfl ?_
 rintro _ _ ⟨rfl, rfl⟩
 refine ag rfl ?_
 refine oV (aA (bd rfl rfl) (by omega)) ?_
 refine rO eK 5 rfl ?_
 exact jb fI ⟨rfl, rfl⟩ (sub (ar .nil) aw)
theorem Lh (b : Nat) (B : List Int) (at_ : Nat) (out : List Int) (free : Int) (n : Int) (hl : B.length < 500000000) (ha : at_ ≤ 8 * B.length) (hn : 0 ≤ n ∧ n ≤ 24 ∧ 8 * (B.length : Int) - at_ < n) : aG Tryz.prog 92 [.pointer (some ⟨b, 0, none⟩), .int .i64 n] [LW b B at_ out free] (rG fun ch G => ch = ku 194 (.agg #[]) ∧ G = [LW b B at_ out free]) := by
 refine av [(0, _), (1, _)] Tryz.func92 rfl Tryz.ntmps92 rfl rfl ?_
 intro w0 F
 refine rT eK 3 rfl ?_
 refine oV (aA (bu rfl rfl) (by omega)) ?_
 refine rO eK 2 rfl ?_
 refine ag rfl ?_
 refine oV (aA (bd rfl rfl) (by omega)) ?_
 refine rO eK 4 rfl ?_
 refine ag rfl ?_
 refine ai (xU b B at_ out free hl ha) V.Ad  rfl (ar .nil) rfl ?_
 rintro _ _ ⟨rfl, rfl⟩
 refine ag rfl ?_
 refine oV (aW (bd rfl rfl) (by omega)) ?_
 refine rO eK 5 rfl ?_
 refine oV (cB V.N1 V.z194 rfl (cs := []) rfl) ?_
 refine oV (uF V.As rfl) ?_
 refine uT rfl ?_
 skip
 exact wR (G := [LW b B at_ out free]) ⟨rfl, rfl⟩ (sub (ar .nil) aw)
theorem JG (b : Nat) (B : List Int) (at_ : Nat) (out : List Int) (free : Int) (hl : B.length < 500000000) (hB : aj.au B) (ha : at_ < 8 * B.length) : aG Tryz.prog 204 [.pointer (some ⟨b, 0, none⟩)] [LW b B at_ out free] (aQ fun v G => v = .int .i64 (aj.jd B at_) ∧ G = [LW b B (at_ + 1) out free]) := by
 refine av [(0, _)] Tryz.func204 rfl Tryz.ntmps204 rfl rfl ?_
 intro w0 F
 refine gD (fun h hh => hh) ?_
 rintro ⟨p1, c1, p2, c2⟩ _
 dsimp only
 have hq : U5.g B ((at_ : Int) / 8) = B.getD (at_ / 8) 0 := gE (at_ / 8) (by omega)
 have hb := hB.get (at_ / 8)
 have hd := aj.yc hb.1 hb.2 (at_ % 8)
 have hb2 := aj.mV B at_
 refine rT eK 6 rfl ?_
 refine wN [pz 0 [] [0], pz 1 [0] [], pz 3 [1] [], pz 7 [2] [], pz 15 [3] [], pz 0 [] [0], pz 32 [5] [], pz 96 [6] [], pz 224 [7] [], pz 480 [8] [], pz 992 [9] [], pz 2047 [4, 10] [], pz 4095 [11] [], pz 0 [] [0], pz 8192 [13] [], pz 24576 [14] [], pz 57344 [15] [], pz 122880 [16] [], pz 253952 [17] [], pz 524287 [12, 18] [], pz 1048575 [19] []] [⟨fun y => ao b 236 [.slice p1 B.length c1, .slice p2 out.length c2, .int .i64 (at_ : Int), .int .i64 free], none, none, [4, 9, 17]⟩, ⟨fun y => Row U5 p1 B.length c1 B, none, none, [11, 12]⟩, ⟨fun y => Row U5 p2 out.length c2 out, none, none, []⟩] F V.mixed ?_
 refine nM ?_
 refine nN ?_
 refine nG V.x8 ?_
 refine nG V.CX ?_
 refine nR (fun y FF hA => ae V.eC rfl an rfl) ?_
 refine nM ?_
 refine nN ?_
 refine nG V.x8 ?_
 refine nG V.wA ?_
 refine nR (fun y FF hA => ae V.s3 rfl an rfl) ?_
 refine nV (fun y hA L => fY rfl rfl (by omega) (jL (by omega) (by omega) (by omega))) ?_
 refine nR (fun y FF hA => xI V.bY (own an)) ?_
 refine nR (fun y FF hA => xL V.s5 (own an)) ?_
 refine nM ?_
 refine nN ?_
 refine nG V.x8 ?_
 refine nG V.wA ?_
 refine nR (fun y FF hA => ae V.s3 rfl an rfl) ?_
 refine nV (fun y hA L => gV rfl rfl (by omega) (jy (by omega))) ?_
 refine nV (fun y hA L => ed (r := B.getD (at_ / 8) 0 / 2 ^ (at_ % 8)) rfl rfl (by omega) (by rw [hq]; exact aj.Lx hb.1 (by omega) (by omega))) ?_
 refine nA ?_
 refine aX ?_
 intro y hA
 clear hA
 refine bN ?_
 refine cu _ (.cons (d := 0) rfl (.cons (d := 3) rfl (.nil _))) ?_
 refine bS (M := ao b 236 [.slice p1 B.length c1, .slice p2 out.length c2, .int .i64 (at_ : Int), .int .i64 free] :: Row U5 p1 B.length c1 B :: Row U5 p2 out.length c2 out :: F) (fun _ _ h => h) ?_
 refine rC eK 6 rfl ?_
 refine oV (ae V.s3 rfl an rfl) ?_
 refine cQ eK 4 rfl (by omega) ?_
 refine aU (bZ V.s3 rfl rfl rfl (by exact cY) (by exact Nat.le_of_ble_eq_true rfl) rfl) ?_
 refine rO eK 5 rfl ?_
 refine oV (kg (r := aj.jd B at_) rfl rfl (aj.ya hd.1 hd.2)) ?_
 refine oV (bg V.u5 Tryz.underlying3 rfl wI) ?_
 refine rO eK 4 rfl ?_
 rw [show (at_ : Int) + 1 = ((at_ + 1 : Nat) : Int) from by omega]
 exact ak (aC rfl) ⟨rfl, rfl⟩ (aV (gm .nil) aw (fun w0 h hh => o0 hh))
theorem fP (b : Nat) (B : List Int) (at_ : Nat) (out : List Int) (free : Int) (n : Nat) (hl : B.length < 500000000) (hB : aj.au B) (hn : n ≤ 24) (ha : at_ + n ≤ 8 * B.length) : aG Tryz.prog 183 [.pointer (some ⟨b, 0, none⟩), .int .i64 (n : Int)] [LW b B at_ out free] (aQ fun v G => v = .int .i64 (aj.aT B at_ n) ∧ G = [LW b B (at_ + n) out free]) := by
 refine av [(0, _), (1, _)] Tryz.func183 rfl Tryz.ntmps183 rfl rfl ?_
 intro w0 F
 refine rT eK 11 rfl ?_
 refine ai (NH b B at_ out free n hl (by omega) (by omega)) V.Ks  rfl (ar .nil) rfl ?_
 rintro _ _ ⟨rfl, rfl⟩
 refine rO eK 15 rfl ?_
 refine eb (fun (k : Nat) => [(0, .pointer (some ⟨b, 0, none⟩)), (5, .int .i64 (aj.aT B at_ k)), (12, .int .i64 (n : Int)), (13, .int .i64 (k : Int))]) (fun (k : Nat) => LW b B (at_ + k) out free :: F) (fun (k : Nat) => k ≤ n) (fun (k : Nat) => n - k) (i1 (0) ?_ (fo ln) (sub (ar .nil) aw)) ?_
 ·exact Nat.zero_le _
 intro k
 rintro hk
 refine rL eK 6 rfl ?_
 refine aN rfl (fun h14 => ?_) (fun h14 => ?_)
 ·refine rC eK 10 rfl ?_
  have hb := aj.mV B (at_ + k)
  have hnb := aj.cH B at_ k
  refine rC eK 3 rfl ?_
  refine ai (JG b B (at_ + k) out free hl hB (by omega)) V.QI  rfl (ar .nil) rfl ?_
  rintro _ _ ⟨rfl, rfl⟩
  refine oV (aK rfl) ?_
  refine oV (gb (r := aj.jd B (at_ + k) * 2 ^ k) rfl rfl (by omega) (aj.NM hb (by omega) rfl)) ?_
  refine oV (nq (r := aj.aT B at_ k + aj.jd B (at_ + k) * 2 ^ k) rfl rfl (aj.NY hnb.1 hnb.2 hb (by omega))) ?_
  refine cQ eK 8 rfl (by omega) ?_
  refine j1 (k + 1) ?_ (fo ln) (sub (ar .nil) aw)
  exact ⟨by omega, by omega⟩
 ·refine rC eK 12 rfl ?_
  obtain rfl : k = n := by omega
  exact ak (aC rfl) ⟨rfl, rfl⟩ (sub (ar .nil) aw)
theorem gA (b : Nat) (B : List Int) (at_ : Nat) (out : List Int) (free : Int) (n : Nat) (hl : B.length < 500000000) (hB : aj.au B) (hn : n ≤ 24) (ha : at_ ≤ 8 * B.length) (hx : 8 * B.length < at_ + n) : aG Tryz.prog 183 [.pointer (some ⟨b, 0, none⟩), .int .i64 (n : Int)] [LW b B at_ out free] (rG fun ch G => ch = ku 194 (.agg #[]) ∧ G = [LW b B at_ out free]) := by
 refine av [(0, _), (1, _)] Tryz.func183 rfl Tryz.ntmps183 rfl rfl ?_
 intro w0 F
 refine rT eK 11 rfl ?_
 refine dK (Lh b B at_ out free n hl ha (by omega)) V.Ks rfl (ar .nil) ?_
 rintro _ _ ⟨rfl, rfl⟩
 refine (dZ ?_)
 exact wR (G := [LW b B at_ out free]) ⟨rfl, rfl⟩ (sub (ar .nil) aw)
theorem Nc (b : Nat) (B : List Int) (at_ : Nat) (out : List Int) (free : Int) (hl : B.length < 500000000) (ha : at_ ≤ 8 * B.length) : aG Tryz.prog 170 [.pointer (some ⟨b, 0, none⟩)] [LW b B at_ out free] (aQ fun v G => v = .int .i64 (8 * (B.length : Int) - (at_ : Int)) ∧ G = [LW b B at_ out free]) := by
 refine av [(0, _)] Tryz.func170 rfl Tryz.ntmps170 rfl rfl ?_
 intro w0 F
 refine rT eK 9 rfl ?_
 refine oV (cK (v := .bool false) (iU Tryz.underlying219 rfl rfl) rfl) ?_
 refine rO eK 10 rfl ?_
 refine ai (xU b B at_ out free hl ha) V.Ad  rfl (ar .nil) rfl ?_
 rintro _ _ ⟨rfl, rfl⟩
 refine rO eK 4 rfl ?_
 exact ak (aC rfl) ⟨rfl, rfl⟩ (sub (ar .nil) aw)
theorem vX (p : Option Addr) (cap : Nat) (B : List Int) (R : ad) (hR : ∀ w0 h, R w0 h → aS U5 p B.length B w0 h) (hl : B.length < 500000000) : aG Tryz.prog 166 [.slice p B.length cap] [R] (aQ fun v G => ∃ b, v = .pointer (some ⟨b, 0, none⟩) ∧ G = [LW b B 0 [] 0, R]) := by
 refine av [(0, _)] Tryz.func166 rfl Tryz.ntmps166 rfl rfl ?_
 intro w0 F
 refine rT eK 8 rfl ?_
 refine ai (oz p cap B R hR hl) V.ze  rfl (ar .nil) rfl ?_
 rintro _ _ ⟨q, c, rfl, rfl⟩
 refine oV (cB V.G1 V.z156 rfl (cs := [.slice q B.length c, .slice none 0 0, .int .i64 0, .int .i64 0]) rfl) ?_
 refine oV (cB V.OH V.z236 rfl (cs := [.slice q B.length c, .slice none 0 0, .int .i64 0, .int .i64 0]) rfl) ?_
 refine eN rfl (cs := [.slice q B.length c, .slice none 0 0, .int .i64 0, .int .i64 0]) rfl rfl ?_
 intro b7
 refine rO eK 4 rfl ?_
 exact ak (aC rfl) ⟨b7, rfl, rfl⟩ ((ej (A := Row U5 none 0 0 []) (fun w0 => Row.nil _ _ _)).trans ((aV (.cons ay (.cons ay (ar .nil))) aw (fun w0 h hh => o0 (p1 := q) (c1 := c) (p2 := none) (c2 := 0) (B := B) (out := []) (at_ := 0) (free := 0) hh)).trans (sub (bF .nil) aw)))
end Go.Proofs.YtmaiakpjgomnpaaGreat
namespace Go.Proofs.YtmaiakpjgomnpaaGreat
open Go.Sl 
theorem RZ : dU Tryz.prog ⟨[], [(151, 1, 1), (151, 2, 2), (151, 3, 3)]⟩ = true := by kernel_rfl
end Go.Proofs.YtmaiakpjgomnpaaGreat
namespace Go.Proofs.YtmaiakpjgomnpaaGreat
open Go.Sl 
theorem R4 : dU Tryz.prog ⟨[47], [(231, 0, 0), (231, 1, 16)]⟩ = true := by kernel_rfl
attribute [local irreducible] af.ord af.iV af.dR af.cM af.dj af.words af.fV af.lenOf af.cg af.gM
attribute [local irreducible] af.P7 af.sy
end Go.Proofs.YtmaiakpjgomnpaaGreat
namespace Go.Proofs.YtmaiakpjgomnpaaGreat
open Go.Sl 
theorem iX : dU Tryz.prog ⟨[47], [(231, 0, 0), (231, 1, 16), (275, 1, 1), (275, 2, 17), (275, 3, 18)]⟩ = true := by kernel_rfl
attribute [local irreducible] af.ord af.iV af.dR af.cM af.dj af.words af.fV af.lenOf af.cg af.gM af.wd af.mA af.kH af.oA af.cls af.off af.tk
set_option maxHeartbeats 2000000 in
theorem KN (b : Nat) (ls : List Int) (b2 : Nat) (B : List Int) (at_ : Nat) (out : List Int) (free : Int) (hE : af.cg ls = 0) (hl : B.length < 500000000) (hB : aj.au B) (ha : at_ ≤ 8 * B.length) : aG Tryz.prog 201 [.pointer (some ⟨b, 0, none⟩), .pointer (some ⟨b2, 0, none⟩)] [HC b ls, LW b2 B at_ out free] (sS (fun v G => ∃ n s, af.tk ls B at_ = .vw n s ∧ v = .int .i64 s ∧ G = [HC b ls, LW b2 B (at_ + n) out free]) (fun ch G => (∃ n, af.tk ls B at_ = .short n ∧ ch = ku 194 (.agg #[]) ∧ G = [HC b ls, LW b2 B (at_ + n) out free]) ∨ (∃ n, af.tk ls B at_ = .none_ n ∧ ch = ku 237 (.agg #[]) ∧ G = [HC b ls, LW b2 B (at_ + n) out free]))) := by
 refine av [(0, _), (1, _)] Tryz.func201 rfl Tryz.ntmps201 rfl rfl ?_
 intro w0 F
 have hV := (af.lS hE).1
 have hW := (af.lS hE).2
 have hcl := af.ko ls
 have hCb := af.px hV.1
 have hm15 := af.KT hV
 have hme := af.M9 ls
 refine gD (fun h hh => hh) ?_
 rintro ⟨p1, c1, p2, c2⟩ _
 dsimp only
 rw [hme]
 refine rT iX 19 rfl ?_
 rw [show ((7 : Nat), Value.int .i64 0) = (7, .int .i64 (af.off ls (0 + 1) : Int)) from by unfold af.off; rfl]
 refine eb (fun (m : Nat) => [(0, .pointer (some ⟨b, 0, none⟩)), (1, .pointer (some ⟨b2, 0, none⟩)), (5, .int .i64 (aj.acc B at_ m)), (6, .int .i64 (af.base ls m + af.cnt ls m)), (7, .int .i64 (af.off ls (m + 1) : Int)), (8, .int .i64 ((m : Int) + 1))]) (fun (m : Nat) => ao b 275 (CA [.slice p1 ls.length c1] .i64 (af.cM ls) [.slice p2 (af.ord ls).length c2, .int .i64 (af.lj ls : Int)]) :: Row qf p1 ls.length c1 (af.words ls) :: Row I3 p2 (af.ord ls).length c2 (af.ord ls) :: LW b2 B (at_ + m) out free :: F) (fun (m : Nat) => af.Tk ls B at_ m) (fun (m : Nat) => af.lj ls - m) (i1 (0) ?_ (kQ (dp ln)) (sub (nH .nil) aw)) ?_
 ·exact af.Ew ha
 intro m
 rintro ht
 have htl := ht.le
 refine rL iX 7 rfl ?_
 refine oV (lM (n := 16) 1 V.s3 rfl an (by omega) rfl rfl) ?_
 refine rO iX 3 rfl ?_
 refine aN rfl (fun h14 => ?_) (fun h14 => ?_)
 ·have hcn := af.LR (ls := ls) (m := m) (by omega)
  have hbf := af.zO hW (n := m + 1) (by omega)
  have hbn := af.q9 ls (m + 1)
  have hc1 := af.ja ls (m + 1)
  have hof := af.BG hV (m := m) (by omega)
  have hac := aj.pR B at_ (m + 1)
  have hac0 := aj.pR B at_ m
  have hp15 := af.qv (show m + 1 ≤ 15 by omega)
  have hp14 := af.qv (show m ≤ 15 by omega)
  have hb := aj.mV B (at_ + m)
  have hnn := ht.nn
  refine rC iX 4 rfl ?_
  rcases (Nat.lt_or_ge (at_ + m) (8 * B.length)) with hx | hx
  ·refine rC iX 3 rfl ?_
   refine oV (gb (r := 2 * aj.acc B at_ m) rfl rfl (by decide) (aj.FG hac0.1 (by omega))) ?_
   refine oV (aK rfl) ?_
   refine ai (fP b2 B (at_ + m) out free 1 hl hB (by omega) (by omega)) V.fm  rfl (.cons dI .nil) rfl ?_
   rintro _ _ ⟨rfl, rfl⟩
   rw [aj.wG]
   refine oV (nq (r := aj.acc B at_ (m + 1)) rfl rfl (aj.CL hac0.1 (by omega) hb)) ?_
   refine rO iX 6 rfl ?_
   refine oV (gb (r := af.base ls (m + 1)) rfl rfl (by decide) (FR hW (by omega))) ?_
   refine cQ iX 13 rfl (by omega) ?_
   refine oV (im (m + 1) rfl V.oN rfl rfl (by omega)) ?_
   refine oV (nj ((m : Int) + 1) V.s3 rfl bW (by (simp only [List.length_cons, List.length_nil]; omega)) (by omega) (by omega)) ?_
   refine rO iX 3 rfl ?_
   refine aN rfl (fun h33 => ?_) (fun h33 => ?_)
   ·refine rC iX 1 rfl ?_
    have hlt : aj.acc B at_ (m + 1) - af.base ls (m + 1) < af.cnt ls (m + 1) := by rw [← hcn]; exact h33
    have hat := af.Kf (by omega) hnn hlt
    have hol : (af.ord ls).length ≤ 320 := by rw [af.um]; exact af.BG hV (m := 15) (by omega)
    refine rC iX 4 rfl ?_
    refine oV (lM (n := 16) 0 V.lg rfl bW (by omega) rfl rfl) ?_
    refine cQ iX 5 rfl (by omega) ?_
    refine oV (xI V.cT (own eG)) ?_
    refine oV (xL V.s3 (own eG)) ?_
    refine rO iX 10 rfl ?_
    rw [← hme]
    exact Jv (G := [HC b ls, LW b2 B (at_ + (m + 1)) out free]) (aC rfl) ⟨m + 1, _, ht.vw (by omega) hx hlt, by rw [← gE (c := I3) (e := (af.off ls (m + 1) : Int) + aj.acc B at_ (m + 1) - af.base ls (m + 1)) _ (by omega)], rfl⟩ ((aV (.cons ay (.cons ay (.cons ay .nil))) aw (fun w0 h hh => pf rfl hh)).trans (sub (bF .nil) aw))
   ·refine rC iX 9 rfl ?_
    refine oV (im (m + 1) rfl V.oN rfl rfl (by omega)) ?_
    refine oV (nj ((m : Int) + 1) V.s3 rfl bW (by (simp only [List.length_cons, List.length_nil]; omega)) (by omega) (by omega)) ?_
    refine cQ iX 10 rfl (by omega) ?_
    refine oV (im (m + 1) rfl V.oN rfl rfl (by omega)) ?_
    refine oV (nj ((m : Int) + 1) V.s3 rfl bW (by (simp only [List.length_cons, List.length_nil]; omega)) (by omega) (by omega)) ?_
    refine cQ iX 10 rfl (by omega) ?_
    rw [hcn, ← af.rf ls (m + 1), show (m : Int) + 1 = ((m + 1 : Nat) : Int) from by omega]
    refine j1 (m + 1) ?_ (kQ (dp ln)) (sub (.cons ay (.cons ay (.cons ay (ar .nil)))) aw)
    exact ⟨ht.PR (by omega) hx (by rw [← hcn]; assumption), by omega⟩
  ·refine rC iX 3 rfl ?_
   refine oV (gb (r := 2 * aj.acc B at_ m) rfl rfl (by decide) (aj.FG hac0.1 (by omega))) ?_
   refine oV (aK rfl) ?_
   refine dK (gA b2 B (at_ + m) out free 1 hl hB (by omega) ht.room (by omega)) V.fm rfl (.cons dI .nil) ?_
   rintro _ _ ⟨rfl, rfl⟩
   refine (dZ (fC (dZ (dZ (fC (dZ ?_))))))
   rw [← hme]
   exact BD (G := [HC b ls, LW b2 B (at_ + m) out free]) (.inl ⟨m, ht.short (by omega) (by omega), rfl, rfl⟩) ((aV (.cons ay (.cons ay (.cons ay .nil))) aw (fun w0 h hh => pf rfl hh)).trans (sub (bF .nil) aw))
 ·refine rC iX 6 rfl ?_
  refine oV (cB V.Ot V.LC rfl (cs := []) rfl) ?_
  refine oV (uF V.DZ rfl) ?_
  refine uT rfl ?_
  skip
  rw [← hme]
  exact BD (G := [HC b ls, LW b2 B (at_ + m) out free]) (.inr ⟨m, ht.none (by omega), rfl, rfl⟩) ((aV (gm .nil) aw (fun w0 h hh => pf rfl hh)).trans (sub (bF .nil) aw))
end Go.Proofs.YtmaiakpjgomnpaaGreat
