/- Walks of functions that the law reaches, and what they lean on; no conditions. -/
import Derived.Test.YtmaiakpjgomnpaaGreatM2
import Derived.KernelRfl
set_option linter.unusedVariables false
set_option linter.unusedSimpArgs false
set_option maxRecDepth 100000
namespace Go.ab
open Go.ag Go.ae
theorem fF {α : Type} (E : Except Int α) : (∃ e, E = .error e) ∨ ∃ x, E = .ok x := by
  cases E with
  | error e => exact .inl ⟨e, rfl⟩
  | ok x => exact .inr ⟨x, rfl⟩
theorem sg {ls B : List Int} {a : Nat} : ∀ {r n n' : Nat} {s : Int}, lx ls B a r n = .vu n' s → n < n' ∧ a + n' ≤ 8 * B.length ∧ (s ∈ ord ls ∨ s = 0) := by
  intro r
  induction r with
  | zero => intro n n' s h; simp [lx] at h
  | succ r ih =>
    intro n n' s h
    simp only [lx] at h
    split at h
    · rename_i h1
      split at h
      · cases h
        refine ⟨by omega, by omega, ?_⟩
        rw [List.getD_eq_getElem?_getD]
        cases hh : (ord ls)[off ls (n + 1) + (acc B a (n + 1) - base ls (n + 1)).toNat]? with
        | none => exact .inr rfl
        | some x => exact .inl (List.mem_of_getElem? hh)
      · have := ih h; exact ⟨by omega, this.2.1, this.2.2⟩
    · cases h
theorem pq {ls B : List Int} {a a' : Nat} {s : Int} (hE : a7 ls = 0) (h0 : 0 < ls.length) (h : sym ls B a = .ok (s, a')) : 0 ≤ s ∧ s < ls.length ∧ a < a' ∧ a' ≤ 8 * B.length := by
  unfold sym at h
  split at h
  · rename_i n s' hs
    cases h
    obtain ⟨h1, h2, h3⟩ := sg hs
    have : 0 ≤ s ∧ s < ls.length := by
      rcases h3 with h3 | rfl
      · obtain ⟨k1, k2, _⟩ := (uH (kU hE).1).1 h3
        omega
      · omega
    omega
  · cases h
  · cases h
theorem xD {B l : List Int} {s x n : Int} {a a' : Nat} (ha : a ≤ 8 * B.length) (h : rep B s l a = .ok (x, n, a')) : 1 ≤ n ∧ n < 200 ∧ a ≤ a' ∧ a' ≤ 8 * B.length := by
  unfold rep at h
  split at h
  · cases h; omega
  split at h
  · cases h
  split at h
  · cases h
  cases h
  have hb := bG B a (oY s)
  have : zw s + aK B a (oY s) < 200 ∧ 1 ≤ zw s := by
    unfold zw
    unfold oY at hb ⊢
    by_cases h1 : s = 16
    · rw [if_pos h1] at hb ⊢; rw [if_neg (by omega)]; omega
    · by_cases h2 : s = 17
      · rw [if_neg h1, if_pos h2] at hb ⊢; rw [if_neg (by omega)]; omega
      · rw [if_neg h1, if_neg h2] at hb ⊢; split <;> omega
  omega
section
variable {B c l l' : List Int} {tot f a a' : Nat} {e s x n : Int}
theorem mr (h : tot ≤ l.length) : eE B c tot f l a = .ok (l, a) := by
  cases f with
  | zero => rfl
  | succ f => simp only [eE]; rw [if_neg (by omega)]
theorem oL (h : l.length < tot) (hf : tot ≤ f + l.length) (k : jT B c l a = .error e) : eE B c tot f l a = .error e := by
  obtain ⟨f, rfl⟩ : ∃ g, f = g + 1 := ⟨f - 1, by omega⟩
  simp only [eE]; rw [if_pos h, k]
theorem vm (h : l.length < tot) (hf : tot ≤ f + l.length) (k : jT B c l a = .ok (l', a')) (hl : l'.length ≤ tot) : eE B c tot f l a = eE B c tot (f - 1) l' a' := by
  obtain ⟨f, rfl⟩ : ∃ g, f = g + 1 := ⟨f - 1, by omega⟩
  simp only [eE]; rw [if_pos h, k]; simp only; rw [if_pos hl]; rfl
theorem yN (h : l.length < tot) (hf : tot ≤ f + l.length) (k : jT B c l a = .ok (l', a')) (hl : ¬ l'.length ≤ tot) : eE B c tot f l a = .error 4 := by
  obtain ⟨f, rfl⟩ : ∃ g, f = g + 1 := ⟨f - 1, by omega⟩
  simp only [eE]; rw [if_pos h, k]; simp only; rw [if_neg hl]
theorem r5 (h : sym c B a = .error e) : jT B c l a = .error e := by unfold jT; rw [h]
theorem rU (h : sym c B a = .ok (s, a')) (k : rep B s l a' = .error e) : jT B c l a = .error e := by unfold jT; rw [h]; simp only; rw [k]
theorem l8 {a'' : Nat} (h : sym c B a = .ok (s, a')) (k : rep B s l a' = .ok (x, n, a'')) : jT B c l a = .ok (l ++ List.replicate n.toNat x, a'') := by unfold jT; rw [h]; simp only; rw [k]
end
theorem Cz (B c l : List Int) (a : Nat) : (∃ e, sym c B a = .error e) ∨ (∃ s a' e, sym c B a = .ok (s, a') ∧ rep B s l a' = .error e) ∨ (∃ s a' x n a'', sym c B a = .ok (s, a') ∧ rep B s l a' = .ok (x, n, a'')) := by
  rcases fF (sym c B a) with ⟨e, h⟩ | ⟨⟨s, a'⟩, h⟩
  · exact .inl ⟨e, h⟩
  · rcases fF (rep B s l a') with ⟨e, k⟩ | ⟨⟨x, n, a''⟩, k⟩
    · exact .inr (.inl ⟨s, a', e, h, k⟩)
    · exact .inr (.inr ⟨s, a', x, n, a'', h, k⟩)
def bR (B : List Int) (a : Nat) : List Int := gH B (a + 14) (hC B a)
def cx (B : List Int) (a : Nat) : Nat := hL B a + hD B a
def dj (B : List Int) (a : Nat) : Nat := a + 14 + 3 * hC B a
section
variable {B l : List Int} {a a' : Nat} {e : Int}
theorem tO (h : 8 * B.length < a + 14) : told B a = .error 2 := if_pos h
theorem wG (h : a + 14 ≤ 8 * B.length) (k : ¬ (hL B a ≤ 286 ∧ hD B a ≤ 30)) : told B a = .error 4 := by
  unfold told; rw [if_neg (by omega), if_pos k]
theorem D5 (h : a + 14 ≤ 8 * B.length) (k : hL B a ≤ 286 ∧ hD B a ≤ 30) (x : 8 * B.length < dj B a) : told B a = .error 2 := by
  unfold told; rw [if_neg (by omega), if_neg (fun h => h k)]; exact if_pos x
theorem CP (h : a + 14 ≤ 8 * B.length) (k : hL B a ≤ 286 ∧ hD B a ≤ 30) (x : dj B a ≤ 8 * B.length) (y : a7 (bR B a) ≠ 0) : told B a = .error 4 := by
  unfold told; rw [if_neg (by omega), if_neg (fun h => h k), if_neg (by unfold dj at x; omega)]; exact if_pos y
theorem uN (h : a + 14 ≤ 8 * B.length) (k : hL B a ≤ 286 ∧ hD B a ≤ 30) (x : dj B a ≤ 8 * B.length) (y : a7 (bR B a) = 0) : told B a = (match eE B (bR B a) (cx B a) (cx B a) [] (dj B a) with
    | .error e => .error e
    | .ok (l, a') => if a7 (l.take (hL B a)) ≠ 0 ∨ a7 (l.drop (hL B a)) ≠ 0 ∨ l.getD 256 0 = 0 then .error 4 else .ok (a', l.take (hL B a), l.drop (hL B a))) := by
  unfold told; rw [if_neg (by omega), if_neg (fun h => h k), if_neg (by unfold dj at x; omega)]; exact if_neg (fun h => h y)
theorem tn (h : a + 14 ≤ 8 * B.length) (k : hL B a ≤ 286 ∧ hD B a ≤ 30) (x : dj B a ≤ 8 * B.length) (y : a7 (bR B a) = 0) (z : eE B (bR B a) (cx B a) (cx B a) [] (dj B a) = .error e) : told B a = .error e := by
  rw [uN h k x y, z]
theorem te (h : a + 14 ≤ 8 * B.length) (k : hL B a ≤ 286 ∧ hD B a ≤ 30) (x : dj B a ≤ 8 * B.length) (y : a7 (bR B a) = 0) (z : eE B (bR B a) (cx B a) (cx B a) [] (dj B a) = .ok (l, a')) (q : a7 (l.take (hL B a)) ≠ 0 ∨ a7 (l.drop (hL B a)) ≠ 0 ∨ l.getD 256 0 = 0) : told B a = .error 4 := by
  rw [uN h k x y, z]; exact if_pos q
theorem Dh (h : a + 14 ≤ 8 * B.length) (k : hL B a ≤ 286 ∧ hD B a ≤ 30) (x : dj B a ≤ 8 * B.length) (y : a7 (bR B a) = 0) (z : eE B (bR B a) (cx B a) (cx B a) [] (dj B a) = .ok (l, a')) (q1 : a7 (l.take (hL B a)) = 0) (q2 : a7 (l.drop (hL B a)) = 0) (q3 : l.getD 256 0 ≠ 0) : told B a = .ok (a', l.take (hL B a), l.drop (hL B a)) := by
  rw [uN h k x y, z]; exact if_neg (fun h => by rcases h with h | h | h; exact h q1; exact h q2; exact q3 h)
end
theorem gS (B : List Int) (a : Nat) : (bR B a).length = 19 := AA _ _ _
theorem Ke {k : Nat} (h : k < 4) : (ib.getD k (0, 0)).2 = ((ib.getD k (0, 0)).2.toNat : Int) ∧ (ib.getD k (0, 0)).2.toNat < 200 := by
  have : ∀ k, k < 4 → (ib.getD k (0, 0)).2 = ((ib.getD k (0, 0)).2.toNat : Int) ∧ (ib.getD k (0, 0)).2.toNat < 200 := by decide
  exact this k h
theorem zI {ls : List Int} (hE : a7 ls = 0) (i : Nat) : 0 ≤ ls.getD i 0 := by
  have hV := (kU hE).1
  rw [List.getD_eq_getElem?_getD]
  cases h : ls[i]? with
  | none => exact Int.le_refl _
  | some x => exact (hV.2 x (List.mem_of_getElem? h)).1
theorem getD_take {l : List Int} {n i : Nat} (h : i < n) : (l.take n).getD i 0 = l.getD i 0 := by
  simp [List.getD_eq_getElem?_getD, List.getElem?_take, h]
end Go.ab
namespace Go.ab
open Go.ag
theorem EO (k : Nat) : gM (k + 1) = gM k ++ List.replicate (ib.getD k (0, 0)).2.toNat (ib.getD k (0, 0)).1 := rfl
theorem Oj {k : Nat} (h : k < 4) : 0 ≤ (ib.getD k (0, 0)).2 ∧ (ib.getD k (0, 0)).2 < 200 := by have := Ke h; omega
theorem Ho (B : List Int) (a : Nat) : gH B a 0 = List.replicate 19 0 := rfl
theorem F4 (B : List Int) (a k : Nat) : gH B a (k + 1) = (gH B a k).set (ly.getD k 0).toNat (aK B (a + 3 * k) 3) := rfl
theorem T5 (n a : Nat) : 8 * n < a + 5 ∨ (a + 5 ≤ 8 * n ∧ 8 * n < a + 10) ∨ (a + 10 ≤ 8 * n ∧ 8 * n < a + 14) ∨ a + 14 ≤ 8 * n := by omega
theorem RH (p q : Prop) : (p ∧ q) ∨ (p ∧ ¬ q) ∨ ¬ p := by
  rcases Classical.em p with h | h
  · rcases Classical.em q with k | k
    · exact .inl ⟨h, k⟩
    · exact .inr (.inl ⟨h, k⟩)
  · exact .inr (.inr h)
theorem xk (B : List Int) (a : Nat) : cx B a = hL B a + hD B a := rfl
theorem xi (B : List Int) (a : Nat) : dj B a = a + 14 + 3 * hC B a := rfl
theorem xu (B : List Int) (a : Nat) : bR B a = gH B (a + 14) (hC B a) := rfl
end Go.ab
namespace Go.ab
end Go.ab
namespace Go.ab
open Go.ag Go.ae
def ew (B : List Int) (s : Int) (a : Nat) : Except Int (Int × Nat) := if 29 ≤ s then .error 4 else if 8 * B.length < a + mP s then .error 2 else .ok (pe s + aK B a (mP s), a + mP s)
def dw (B ds : List Int) (a : Nat) : Except Int (Int × Nat) := match sym ds B a with
 | .error e => .error e
 | .ok (d, a3) => if 30 ≤ d then .error 4 else if 8 * B.length < a3 + mR d then .error 2 else .ok (sJ d + aK B a3 (mR d), a3 + mR d)
theorem pI (B : List Int) (a : Nat) : aK B a 0 = 0 := rfl
section
variable {B : List Int} {s : Int} {a : Nat}
theorem CS (h : 29 ≤ s) : ew B s a = .error 4 := if_pos h
def fz (s : Int) : Nat := (s / 4 - 1).toNat
def fX (s : Int) : Nat := (s / 2 - 1).toNat
theorem Ak (h : s < 8 ∨ s = 28) : mP s = 0 := if_pos h
theorem IX (h : 8 ≤ s) (h2 : s < 28) : mP s = fz s := if_neg (by omega)
theorem Lz (h : s < 8) : pe s = 3 + s := if_pos h
theorem Kw (h : s = 28) : pe s = 258 := by unfold pe; rw [if_neg (by omega)]; exact if_pos h
theorem TP (h : 8 ≤ s) (h2 : s < 28) : pe s = 3 + (4 + s % 4) * 2 ^ fz s := by unfold pe; rw [if_neg (by omega), if_neg (by omega)]; rfl
theorem LA (h : s < 4) : mR s = 0 := if_pos h
theorem HR (h : 4 ≤ s) : mR s = fX s := if_neg (by omega)
theorem LM (h : s < 4) : sJ s = 1 + s := if_pos h
theorem TH (h : 4 ≤ s) : sJ s = 1 + (2 + s % 2) * 2 ^ fX s := if_neg (by omega)
theorem Au (h0 : 0 ≤ s) (h : s < 8) (ha : a ≤ 8 * B.length) : ew B s a = .ok (3 + s, a) := by
 unfold ew
 rw [if_neg (by omega), Ak (.inl h), Lz h, pI, Int.add_zero]; exact if_neg (by omega)
theorem zC (h : s = 28) (ha : a ≤ 8 * B.length) : ew B s a = .ok (258, a) := by
 unfold ew
 rw [if_neg (by omega), Ak (.inr h), Kw h, pI, Int.add_zero]; exact if_neg (by omega)
theorem vS (h : 8 ≤ s) (h2 : s < 28) (hx : 8 * B.length < a + fz s) : ew B s a = .error 2 := by
 unfold ew
 rw [if_neg (by omega), IX h h2]; exact if_pos hx
theorem Fx (h : 8 ≤ s) (h2 : s < 28) (hx : a + fz s ≤ 8 * B.length) : ew B s a = .ok (3 + (4 + s % 4) * 2 ^ fz s + aK B a (fz s), a + fz s) := by
 unfold ew
 rw [if_neg (by omega), IX h h2, TP h h2]; exact if_neg (by omega)
theorem yM (h : 8 ≤ s) (h2 : s < 28) : s / 4 - 1 = (fz s : Int) ∧ fz s ≤ 5 ∧ 1 ≤ fz s := by unfold fz; omega
theorem wY (h : 4 ≤ s) (h2 : s < 30) : s / 2 - 1 = (fX s : Int) ∧ fX s ≤ 13 ∧ 1 ≤ fX s := by unfold fX; omega
end
section
variable {B ds : List Int} {s e : Int} {a a3 : Nat}
theorem Fi (h : sym ds B a = .error e) : dw B ds a = .error e := by unfold dw; rw [h]
theorem Bf (h : sym ds B a = .ok (s, a3)) (k : 30 ≤ s) : dw B ds a = .error 4 := by unfold dw; rw [h]; exact if_pos k
theorem w5 (h : sym ds B a = .ok (s, a3)) (h0 : 0 ≤ s) (k : s < 4) (ha : a3 ≤ 8 * B.length) : dw B ds a = .ok (1 + s, a3) := by
 unfold dw; rw [h]; simp only; rw [if_neg (by omega), LA k, LM k, pI, Int.add_zero]; exact if_neg (by omega)
theorem tJ (h : sym ds B a = .ok (s, a3)) (h1 : 4 ≤ s) (h2 : s < 30) (hx : 8 * B.length < a3 + fX s) : dw B ds a = .error 2 := by
 unfold dw; rw [h]; simp only; rw [if_neg (by omega), HR h1]; exact if_pos hx
theorem A5 (h : sym ds B a = .ok (s, a3)) (h1 : 4 ≤ s) (h2 : s < 30) (hx : a3 + fX s ≤ 8 * B.length) : dw B ds a = .ok (1 + (2 + s % 2) * 2 ^ fX s + aK B a3 (fX s), a3 + fX s) := by
 unfold dw; rw [h]; simp only; rw [if_neg (by omega), HR h1, TH h1]; exact if_neg (by omega)
end
theorem k6 {x : Int} {n : Nat} (h0 : 0 ≤ x) (h1 : x < 8) (hn : n ≤ 13) {d : Int} (hd : d = (n : Int)) : IntKind.i64.wrap (x * 2 ^ (min d.toNat IntKind.i64.bits)) = x * 2 ^ n ∧ 0 ≤ x * 2 ^ n ∧ x * 2 ^ n < 65536 := by
 have e : min d.toNat IntKind.i64.bits = n := by
  have : IntKind.i64.bits = 64 := rfl
  omega
 have hp : (2 : Int) ^ n ≤ 2 ^ 13 := by
  have := Nat.pow_le_pow_right (n := 2) (by decide) hn
  have e2 : ((2 : Int) ^ n) = ((2 ^ n : Nat) : Int) := by simp
  rw [e2]; exact_mod_cast this
 have h2 : (0 : Int) < 2 ^ n := Int.pow_pos (by decide)
 have h3 : 0 ≤ x * 2 ^ n := Int.mul_nonneg h0 (Int.le_of_lt h2)
 have h4 : x * 2 ^ n ≤ 7 * 2 ^ 13 := Int.le_trans (Int.mul_le_mul_of_nonneg_right (show x ≤ 7 by omega) (Int.le_of_lt h2)) (Int.mul_le_mul_of_nonneg_left hp (by decide))
 rw [e]
 exact ⟨Sl.gl (by omega) (by omega), h3, by omega⟩
theorem Io {x y : Int} (hx : 0 ≤ x ∧ x < 65536) (hy : 0 ≤ y ∧ y < 65536) : (IntKind.i64.wrap ((BitVec.ofInt IntKind.i64.bits x ^^^ BitVec.ofInt IntKind.i64.bits y).toNat : Int) = 65535) ↔ x = 65535 - y := by
 obtain ⟨a, rfl⟩ : ∃ a : Nat, x = (a : Int) := ⟨x.toNat, by omega⟩
 obtain ⟨b, rfl⟩ : ∃ b : Nat, y = (b : Int) := ⟨y.toNat, by omega⟩
 have e : IntKind.i64.bits = 64 := rfl
 have ha : a < 2 ^ 16 := by omega
 have hb : b < 2 ^ 16 := by omega
 have hlt : a ^^^ b < 2 ^ 16 := Nat.xor_lt_two_pow ha hb
 rw [e, BitVec.toNat_xor, du, du, Nat.mod_eq_of_lt (by omega), Nat.mod_eq_of_lt (by omega), Sl.gl (by omega) (by omega)]
 have hc : b ^^^ 65535 = 65535 - b := by
  have h1 : (BitVec.ofNat 16 b ^^^ BitVec.allOnes 16) = ~~~ (BitVec.ofNat 16 b) := BitVec.xor_allOnes
  have h2 := congrArg BitVec.toNat h1
  rw [BitVec.toNat_xor, BitVec.toNat_not, BitVec.toNat_ofNat, BitVec.toNat_allOnes, Nat.mod_eq_of_lt hb] at h2
  exact h2
 constructor
 ·intro h
  have h' : a ^^^ b = 65535 := by omega
  have : a = 65535 ^^^ b := by rw [← h', Nat.xor_assoc, Nat.xor_self, Nat.xor_zero]
  rw [Nat.xor_comm, hc] at this
  omega
 ·intro h
  have h' : a = 65535 - b := by omega
  rw [h', ← hc, Nat.xor_comm b, Nat.xor_assoc, Nat.xor_self, Nat.xor_zero]
  rfl
section
variable {B : List Int} {s : St} {e : Int}
theorem BV (h : 8 * B.length < s.at_ + 3) : cF B s = .error 2 := if_pos h
theorem xE (h : s.at_ + 3 ≤ 8 * B.length) (k : aK B (s.at_ + 1) 2 = 0) (hx : 8 * B.length < cI (s.at_ + 3) + 32) : cF B s = .error 2 := by
 unfold cF; rw [if_neg (by omega), if_pos k]; exact if_pos hx
theorem CF (h : s.at_ + 3 ≤ 8 * B.length) (k : aK B (s.at_ + 1) 2 = 0) (hx : cI (s.at_ + 3) + 32 ≤ 8 * B.length) (hm : aK B (cI (s.at_ + 3)) 16 ≠ 65535 - aK B (cI (s.at_ + 3) + 16) 16) : cF B s = .error 4 := by
 unfold cF; rw [if_neg (by omega), if_pos k, if_neg (by omega)]; exact if_neg hm
theorem yQ (h : s.at_ + 3 ≤ 8 * B.length) (k : aK B (s.at_ + 1) 2 = 0) (hx : cI (s.at_ + 3) + 32 ≤ 8 * B.length) (hm : aK B (cI (s.at_ + 3)) 16 = 65535 - aK B (cI (s.at_ + 3) + 16) 16) : cF B s = .ok { s with at_ := cI (s.at_ + 3) + 32, kind := 0, left := (aK B (cI (s.at_ + 3)) 16).toNat, last := decide (aK B s.at_ 1 = 1) } := by
 unfold cF; rw [if_neg (by omega), if_pos k, if_neg (by omega)]; exact if_pos hm
theorem IS (h : s.at_ + 3 ≤ 8 * B.length) (k : aK B (s.at_ + 1) 2 = 1) : cF B s = .ok { s with at_ := s.at_ + 3, kind := 1, last := decide (aK B s.at_ 1 = 1), lits := eY, dG := kz } := by
 unfold cF; rw [if_neg (by omega), if_neg (by omega)]; exact if_pos k
theorem El (h : s.at_ + 3 ≤ 8 * B.length) (k : aK B (s.at_ + 1) 2 = 2) (t : told B (s.at_ + 3) = .error e) : cF B s = .error e := by
 unfold cF; rw [if_neg (by omega), if_neg (by omega), if_neg (by omega), if_pos k, t]
theorem D0 {a : Nat} {l d : List Int} (h : s.at_ + 3 ≤ 8 * B.length) (k : aK B (s.at_ + 1) 2 = 2) (t : told B (s.at_ + 3) = .ok (a, l, d)) : cF B s = .ok { s with at_ := a, kind := 2, last := decide (aK B s.at_ 1 = 1), lits := l, dG := d } := by
 unfold cF; rw [if_neg (by omega), if_neg (by omega), if_neg (by omega), if_pos k, t]
theorem Di (h : s.at_ + 3 ≤ 8 * B.length) (k : aK B (s.at_ + 1) 2 ≠ 0) (k1 : aK B (s.at_ + 1) 2 ≠ 1) (k2 : aK B (s.at_ + 1) 2 ≠ 2) : cF B s = .error 4 := by
 unfold cF; rw [if_neg (by omega), if_neg k, if_neg k1]; exact if_neg k2
end
section
variable {B : List Int} {bT : Int} {s : St} {y n f e : Int} {a a2 a3 : Nat}
theorem wi (h : sym s.lits B s.at_ = .error e) : dU B bT s = .error e := by unfold dU; rw [h]
theorem ni (h : sym s.lits B s.at_ = .ok (y, a)) (k : y < 256) : dU B bT s = dS bT { s with at_ := a } y := by unfold dU; rw [h]; exact if_pos k
theorem qD (h : sym s.lits B s.at_ = .ok (y, a)) (k : y = 256) : dU B bT s = .ok { s with at_ := a, kind := -1, ended := s.last } := by unfold dU; rw [h]; simp only; rw [if_neg (by omega)]; exact if_pos k
theorem tv (h : sym s.lits B s.at_ = .ok (y, a)) (k : 256 < y) : dU B bT s = (match ew B (y - 257) a with
  | .error e => .error e
  | .ok (n, a2) => match dw B s.dG a2 with
   | .error e => .error e
   | .ok (f, a3) => if f ≤ s.out.length then .ok { s with at_ := a3, ax := n.toNat, bA := f.toNat } else .error 4) := by
 unfold dU ew; rw [h]; simp only
 rw [if_neg (by omega), if_neg (by omega)]
 by_cases h1 : 286 ≤ y
 ·rw [if_pos h1, if_pos (show 29 ≤ y - 257 by omega)]
 ·rw [if_neg h1, if_neg (show ¬ 29 ≤ y - 257 by omega)]
  by_cases h2 : 8 * B.length < a + mP (y - 257)
  ·rw [if_pos h2, if_pos h2]
  ·rw [if_neg h2, if_neg h2]
   unfold dw
   simp only
   cases hs : sym s.dG B (a + mP (y - 257)) with
   | error e => rfl
   | ok q =>
    obtain ⟨d, a3⟩ := q
    simp only
    by_cases h3 : 30 ≤ d
    ·rw [if_pos h3, if_pos h3]
    ·rw [if_neg h3, if_neg h3]
     by_cases h4 : 8 * B.length < a3 + mR d
     ·rw [if_pos h4, if_pos h4]
     ·rw [if_neg h4, if_neg h4]
theorem wm (h : sym s.lits B s.at_ = .ok (y, a)) (k : 256 < y) (l : ew B (y - 257) a = .error e) : dU B bT s = .error e := by rw [tv h k, l]
theorem wy (h : sym s.lits B s.at_ = .ok (y, a)) (k : 256 < y) (l : ew B (y - 257) a = .ok (n, a2)) (w : dw B s.dG a2 = .error e) : dU B bT s = .error e := by rw [tv h k, l]; simp only; rw [w]
theorem wD (h : sym s.lits B s.at_ = .ok (y, a)) (k : 256 < y) (l : ew B (y - 257) a = .ok (n, a2)) (w : dw B s.dG a2 = .ok (f, a3)) (q : ¬ f ≤ s.out.length) : dU B bT s = .error 4 := by rw [tv h k, l]; simp only; rw [w]; exact if_neg q
theorem wv (h : sym s.lits B s.at_ = .ok (y, a)) (k : 256 < y) (l : ew B (y - 257) a = .ok (n, a2)) (w : dw B s.dG a2 = .ok (f, a3)) (q : f ≤ s.out.length) : dU B bT s = .ok { s with at_ := a3, ax := n.toNat, bA := f.toNat } := by rw [tv h k, l]; simp only; rw [w]; exact if_pos q
end
theorem Ey {B : List Int} {s n : Int} {a a2 : Nat} (h0 : 0 ≤ s) (ha : a ≤ 8 * B.length) (h : ew B s a = .ok (n, a2)) : 3 ≤ n ∧ n < 400 ∧ a ≤ a2 ∧ a2 ≤ 8 * B.length := by
 by_cases h1 : s < 8
 ·rw [Au h0 h1 ha] at h; cases h; omega
 by_cases h2 : 29 ≤ s
 ·rw [CS h2] at h; cases h
 by_cases h3 : s = 28
 ·rw [zC h3 ha] at h; cases h; omega
 by_cases h4 : a + fz s ≤ 8 * B.length
 ·rw [Fx (by omega) (by omega) h4] at h; cases h
  obtain ⟨k1, k2, k3⟩ := yM (s := s) (by omega) (by omega)
  have hb := bG B a (fz s)
  have : fz s = 1 ∨ fz s = 2 ∨ fz s = 3 ∨ fz s = 4 ∨ fz s = 5 := by omega
  rcases this with e | e | e | e | e <;> rw [e] at hb ⊢ <;> omega
 ·rw [vS (by omega) (by omega) (by omega)] at h; cases h
theorem Ck {B ds : List Int} {n : Int} {a a3 : Nat} (hE : a7 ds = 0) (hd : 0 < ds.length) (h : dw B ds a = .ok (n, a3)) : 1 ≤ n ∧ n < 100000 ∧ a ≤ a3 ∧ a3 ≤ 8 * B.length := by
 cases hs : sym ds B a with
 | error e => rw [Fi hs] at h; cases h
 | ok q =>
  obtain ⟨s, b⟩ := q
  have hg := pq hE hd hs
  by_cases h2 : 30 ≤ s
  ·rw [Bf hs h2] at h; cases h
  by_cases h1 : s < 4
  ·rw [w5 hs hg.1 h1 hg.2.2.2] at h; cases h; omega
  by_cases h4 : b + fX s ≤ 8 * B.length
  ·rw [A5 hs (by omega) (by omega) h4] at h; cases h
   obtain ⟨k1, k2, k3⟩ := wY (s := s) (by omega) (by omega)
   have hb := bG B b (fX s)
   obtain ⟨_, m1, m2⟩ := k6 (x := 2 + s % 2) (n := fX s) (by omega) (by omega) (by omega) rfl
   have hp : (2 : Int) ^ fX s ≤ 2 ^ 13 := by
    have := Nat.pow_le_pow_right (n := 2) (by decide) k2
    have e2 : ((2 : Int) ^ fX s) = ((2 ^ fX s : Nat) : Int) := by simp
    rw [e2]; exact_mod_cast this
   omega
  ·rw [tJ hs (by omega) (by omega) (by omega)] at h; cases h
end Go.ab
namespace Go.ab
open Go.ag Go.ae
theorem CN {B : List Int} {s : Int} {a : Nat} (h0 : 0 ≤ s) (ha : a ≤ 8 * B.length) : (∃ e, ew B s a = .error e) ∨ ∃ n a2 : Nat, ew B s a = .ok ((n : Int), a2) ∧ 3 ≤ n ∧ n < 400 ∧ a ≤ a2 ∧ a2 ≤ 8 * B.length := by
 rcases fF (ew B s a) with h | ⟨⟨n, a2⟩, h⟩
 ·exact .inl h
 ·have hg := Ey h0 ha h
  refine .inr ⟨n.toNat, a2, ?_, by omega, by omega, hg.2.2.1, hg.2.2.2⟩
  rw [h, Int.toNat_of_nonneg (by omega)]
theorem Af {B ds : List Int} {a : Nat} (hE : a7 ds = 0) (hd : 0 < ds.length) : (∃ e, dw B ds a = .error e) ∨ ∃ f a2 : Nat, dw B ds a = .ok ((f : Int), a2) ∧ 1 ≤ f ∧ f < 100000 ∧ a ≤ a2 ∧ a2 ≤ 8 * B.length := by
 rcases fF (dw B ds a) with h | ⟨⟨n, a2⟩, h⟩
 ·exact .inl h
 ·have hg := Ck hE hd h
  refine .inr ⟨n.toNat, a2, ?_, by omega, by omega, hg.2.2.1, hg.2.2.2⟩
  rw [h, Int.toNat_of_nonneg (by omega)]
theorem yg {B ls : List Int} {a : Nat} (hE : a7 ls = 0) (hd : 0 < ls.length) : (∃ e, sym ls B a = .error e) ∨ ∃ (y : Int) (a2 : Nat), sym ls B a = .ok (y, a2) ∧ 0 ≤ y ∧ y < ls.length ∧ a < a2 ∧ a2 ≤ 8 * B.length := by
 rcases fF (sym ls B a) with h | ⟨⟨y, a2⟩, h⟩
 ·exact .inl h
 ·exact .inr ⟨y, a2, h, pq hE hd h⟩
structure Ok (B : List Int) (mo : Int) (s : St) : Prop where
 at_ : s.at_ ≤ 8 * B.length
 room : (s.out.length : Int) ≤ mo
 pS : an s.out
 kind : s.kind = -1 ∨ s.kind = 0 ∨ s.kind = 1 ∨ s.kind = 2
 left : s.left < 65536
 Iy : 0 < s.kind → a7 s.lits = 0 ∧ a7 s.dG = 0 ∧ 0 < s.lits.length ∧ 0 < s.dG.length
 ax : s.ax < 400
 bA : 0 < s.ax → 1 ≤ s.bA ∧ s.bA ≤ s.out.length
theorem Fv {B l d : List Int} {a a' : Nat} (h : told B a = .ok (a', l, d)) : a7 l = 0 ∧ a7 d = 0 ∧ 0 < l.length ∧ 0 < d.length ∧ a < a' ∧ a' ≤ 8 * B.length := by
 by_cases h1 : 8 * B.length < a + 14
 ·rw [tO h1] at h; cases h
 by_cases h2' : ¬ (hL B a ≤ 286 ∧ hD B a ≤ 30)
 ·rw [wG (by omega) h2'] at h; cases h
 have h2 := Classical.not_not.1 h2'
 by_cases h3 : 8 * B.length < dj B a
 ·rw [D5 (by omega) h2 h3] at h; cases h
 by_cases h4' : a7 (bR B a) ≠ 0
 ·rw [CP (by omega) h2 (by omega) h4'] at h; cases h
 have h4 := Classical.not_not.1 h4'
 cases h5 : eE B (bR B a) (cx B a) (cx B a) [] (dj B a) with
 | error e => rw [tn (by omega) h2 (by omega) h4 h5] at h; cases h
 | ok q =>
  obtain ⟨ls, a2⟩ := q
  by_cases h6 : a7 (ls.take (hL B a)) ≠ 0 ∨ a7 (ls.drop (hL B a)) ≠ 0 ∨ ls.getD 256 0 = 0
  ·rw [te (by omega) h2 (by omega) h4 h5 h6] at h; cases h
  ·have h7 : a7 (ls.take (hL B a)) = 0 := by
    rcases Classical.em (a7 (ls.take (hL B a)) = 0) with k | k
    ·exact k
    ·exact (h6 (.inl k)).elim
   have h8 : a7 (ls.drop (hL B a)) = 0 := by
    rcases Classical.em (a7 (ls.drop (hL B a)) = 0) with k | k
    ·exact k
    ·exact (h6 (.inr (.inl k))).elim
   have h9 : ls.getD 256 0 ≠ 0 := fun k => h6 (.inr (.inr k))
   rw [Dh (by omega) h2 (by omega) h4 h5 h7 h8 h9] at h
   cases h
   have key : ∀ (f : Nat) (l : List Int) (x : Nat), cx B a ≤ f + l.length → l.length ≤ cx B a → x ≤ 8 * B.length → eE B (bR B a) (cx B a) f l x = .ok (ls, a') → ls.length = cx B a ∧ x ≤ a' ∧ a' ≤ 8 * B.length := by
    intro f
    induction f with
    | zero => intro l x k1 k2 k3 k4; rw [mr (by omega)] at k4; cases k4; exact ⟨by omega, Nat.le_refl _, k3⟩
    | succ f ih =>
     intro l x k1 k2 k3 k4
     by_cases hl : cx B a ≤ l.length
     ·rw [mr hl] at k4; cases k4; exact ⟨by omega, Nat.le_refl _, k3⟩
     ·rcases Cz B (bR B a) l x with ⟨e, hs⟩ | ⟨sy, x2, e, hs, hr⟩ | ⟨sy, x2, v, n, x3, hs, hr⟩
      ·rw [oL (by omega) k1 (r5 hs)] at k4; cases k4
      ·rw [oL (by omega) k1 (rU hs hr)] at k4; cases k4
      ·have hsg := pq h4 (by rw [gS]; omega) hs
       have hrg := xD hsg.2.2.2 hr
       by_cases hb : (l ++ List.replicate n.toNat v).length ≤ cx B a
       ·rw [vm (by omega) k1 (l8 hs hr) hb] at k4
        have := ih _ _ (by rw [List.length_append, List.length_replicate]; omega) hb hrg.2.2.2 k4
        exact ⟨this.1, by omega, this.2.2⟩
       ·rw [yN (by omega) k1 (l8 hs hr) hb] at k4; cases k4
   have hA := xi B a
   have := key _ [] _ (Nat.le_add_right _ _) (Nat.zero_le _) (show dj B a ≤ 8 * B.length by omega) h5
   have hN := xk B a
   have hd := C5 B a
   have hn2 := bG B (a + 5) 5
   refine ⟨h7, h8, ?_, ?_, by omega, this.2.2⟩
   ·rw [List.length_take]; omega
   ·rw [List.length_drop]
    have : 1 ≤ hD B a := by omega
    omega
end Go.ab
namespace Go.ab
open Go.ag Go.ae
theorem xV {ls : List Int} (h : a7 ls = 0) : ls.length ≤ 320 := (kU h).1.1
theorem xG (a : Nat) : cI a = (a + 7) / 8 * 8 := rfl
theorem Tt (n a : Nat) : 8 * n < a + 16 ∨ (a + 16 ≤ 8 * n ∧ 8 * n < a + 32) ∨ a + 32 ≤ 8 * n := by omega
end Go.ab
namespace Go.ab
open Go.ag Go.ae
section
variable {B : List Int} {mo y e : Int} {s s2 : St} {at_ : Nat}
theorem qy (h : dS mo s y = .ok s2) : (s.out.length : Int) < mo ∧ s2 = { s with out := s.out ++ [y] } := by
  unfold dS at h
  split at h
  · cases h; rename_i k; exact ⟨k, rfl⟩
  · cases h
theorem lL (h : (s.out.length : Int) < mo) : dS mo s y = .ok { s with out := s.out ++ [y] } := if_pos h
theorem mb (h : ¬ (s.out.length : Int) < mo) : dS mo s y = .error 6 := if_neg h
theorem Pe (h : dS mo { s with at_ := at_ } y = .error e) : dS mo s y = .error e := by
  by_cases k : (s.out.length : Int) < mo
  · rw [lL (s := { s with at_ := at_ }) k] at h; cases h
  · rw [mb (s := { s with at_ := at_ }) k] at h; rw [mb k]; exact h
theorem Mn (B : List Int) (a : Nat) (mo : Int) (s : St) (y : Int) : 8 * B.length < a + 8 ∨ (a + 8 ≤ 8 * B.length ∧ ∃ e, dS mo s y = .error e) ∨ (a + 8 ≤ 8 * B.length ∧ ∃ s2, dS mo s y = .ok s2) := by
  rcases Nat.lt_or_ge (8 * B.length) (a + 8) with h | h
  · exact .inl h
  · rcases fF (dS mo s y) with k | k
    · exact .inr (.inl ⟨h, k⟩)
    · exact .inr (.inr ⟨h, k⟩)
theorem SQ (h : 0 < s.ax) (k : (s.out.length : Int) < mo) : one B mo s = .ok { s with ax := s.ax - 1, out := s.out ++ [s.out.getD (s.out.length - s.bA) 0] } := by
  unfold one; rw [if_pos h]; exact lL k
theorem Ra (h : 0 < s.ax) (k : dS mo s (s.out.getD (s.out.length - s.bA) 0) = .error e) : one B mo s = .error e := by
  unfold one; rw [if_pos h]
  by_cases q : (s.out.length : Int) < mo
  · rw [lL q] at k; cases k
  · rw [mb q] at k; rw [← k]; exact mb q
theorem sZ (h : ¬ 0 < s.ax) (k : s.kind = -1) : one B mo s = cF B s := by unfold one; rw [if_neg h, if_pos k]
theorem wj (h : ¬ 0 < s.ax) (k : ¬ s.kind = -1) (k0 : s.kind ≠ 0) : one B mo s = dU B mo s := by unfold one; rw [if_neg h, if_neg k, if_pos k0]
theorem sT (h : ¬ 0 < s.ax) (k : ¬ s.kind = -1) (k0 : s.kind = 0) (l : s.left = 0) : one B mo s = .ok { s with kind := -1, ended := s.last } := by unfold one; rw [if_neg h, if_neg k, if_neg (by omega), if_pos l]
theorem yC (h : ¬ 0 < s.ax) (k : ¬ s.kind = -1) (k0 : s.kind = 0) (l : ¬ s.left = 0) (x : 8 * B.length < s.at_ + 8) : one B mo s = .error 2 := by unfold one; rw [if_neg h, if_neg k, if_neg (by omega), if_neg l, if_pos x]
theorem ue (h : ¬ 0 < s.ax) (k : ¬ s.kind = -1) (k0 : s.kind = 0) (l : ¬ s.left = 0) (x : s.at_ + 8 ≤ 8 * B.length) : one B mo s = dS mo { s with at_ := s.at_ + 8, left := s.left - 1 } (aK B s.at_ 8) := by unfold one; rw [if_neg h, if_neg k, if_neg (by omega), if_neg l, if_neg (by omega)]
theorem one_le (h : ¬ 0 < s.ax) (k : ¬ s.kind = -1) (k0 : s.kind = 0) (l : ¬ s.left = 0) (x : s.at_ + 8 ≤ 8 * B.length) (p : dS mo { s with at_ := s.at_ + 8 } (aK B s.at_ 8) = .error e) : one B mo s = .error e := by
  rw [ue h k k0 l x]
  by_cases q : (s.out.length : Int) < mo
  · rw [lL (s := { s with at_ := s.at_ + 8 }) q] at p; cases p
  · rw [mb (s := { s with at_ := s.at_ + 8 }) q] at p; rw [← p]; exact mb q
theorem CZ (h : ¬ 0 < s.ax) (k : ¬ s.kind = -1) (k0 : s.kind = 0) (l : ¬ s.left = 0) (x : s.at_ + 8 ≤ 8 * B.length) (q : (s.out.length : Int) < mo) : one B mo s = .ok { s with at_ := s.at_ + 8, left := s.left - 1, out := s.out ++ [aK B s.at_ 8] } := by
  rw [ue h k k0 l x]; exact lL q
end
end Go.ab
namespace Go.ab
open Go.ag Go.ae
theorem Gb : eY.length = 288 := by decide +kernel
theorem G9 : kz.length = 32 := by decide +kernel
def mu (B : List Int) (s : St) : Nat := (8 * B.length - s.at_) * 1000 + s.ax + (if s.kind = -1 then 0 else 1)
theorem Ji {B : List Int} {s : St} (h : s.kind = -1) : mu B s = (8 * B.length - s.at_) * 1000 + s.ax := by unfold mu; rw [if_pos h, Nat.add_zero]
theorem P3 {B : List Int} {s : St} (h : ¬ s.kind = -1) : mu B s = (8 * B.length - s.at_) * 1000 + s.ax + 1 := by unfold mu; rw [if_neg h]
theorem ob (B : List Int) (s : St) : mu B s ≤ (8 * B.length - s.at_) * 1000 + s.ax + 1 := by unfold mu; split <;> omega
theorem Km {l : List Int} {y : Int} (h : an l) (hy : 0 ≤ y ∧ y < 256) : an (l ++ [y]) := by
  intro x hx
  rcases List.mem_append.1 hx with hx | hx
  · exact h x hx
  · rw [List.mem_singleton.1 hx]; exact hy
structure Good (B : List Int) (mo : Int) (s s2 : St) : Prop where
  ok : Ok B mo s2
  less : mu B s2 < mu B s
  le : s.out.length ≤ s2.out.length
  one : s2.out.length ≤ s.out.length + 1
theorem rJ {B : List Int} {mo : Int} {s s1 s2 : St} {y : Int} (hy : 0 ≤ y ∧ y < 256) (h : dS mo s1 y = .ok s2) (ho : s1.out = s.out) (hok : Ok B mo s1) (hl : mu B s1 < mu B s) (hf : s1.ax = 0 ∨ True) : Good B mo s s2 := by
  obtain ⟨k, rfl⟩ := qy h
  refine ⟨⟨hok.at_, by simp; omega, Km hok.pS hy, hok.kind, hok.left, hok.Iy, hok.ax, fun h => ?_⟩, hl, by simp [ho], by simp [ho]⟩
  have := hok.bA h
  simp; omega
theorem kH {B : List Int} {mo : Int} {s s2 : St} (hB : an B) (hok : Ok B mo s) (h : one B mo s = .ok s2) : Good B mo s s2 := by
  obtain ⟨q1, q2, q3, q4, q5, q6, q7, q8⟩ := hok
  by_cases hc : 0 < s.ax
  · have he : dS mo { s with ax := s.ax - 1 } (s.out.getD (s.out.length - s.bA) 0) = .ok s2 := by unfold one at h; rw [if_pos hc] at h; exact h
    refine rJ (q3.get _) he rfl ⟨q1, q2, q3, q4, q5, q6, by show s.ax - 1 < 400; omega, fun _ => q8 hc⟩ ?_ (.inr trivial)
    show (8 * B.length - s.at_) * 1000 + (s.ax - 1) + (if s.kind = -1 then 0 else 1) < (8 * B.length - s.at_) * 1000 + s.ax + (if s.kind = -1 then 0 else 1)
    omega
  by_cases hk : s.kind = -1
  · rw [sZ hc hk] at h
    by_cases h1 : 8 * B.length < s.at_ + 3
    · rw [BV h1] at h; cases h
    have hx1 : s.at_ + 3 ≤ 8 * B.length := by omega
    have hm := Ji (B := B) hk
    by_cases k0 : aK B (s.at_ + 1) 2 = 0
    · by_cases hx : 8 * B.length < cI (s.at_ + 3) + 32
      · rw [xE hx1 k0 hx] at h; cases h
      · by_cases hn : aK B (cI (s.at_ + 3)) 16 = 65535 - aK B (cI (s.at_ + 3) + 16) 16
        · rw [yQ hx1 k0 (by omega) hn] at h; cases h
          have hb := bG B (cI (s.at_ + 3)) 16
          have ha := xG (s.at_ + 3)
          refine ⟨⟨by show cI (s.at_ + 3) + 32 ≤ _; omega, q2, q3, .inr (.inl rfl), by show (aK B (cI (s.at_ + 3)) 16).toNat < 65536; omega, fun h => absurd h (by show ¬ (0 : Int) < 0; omega), q7, q8⟩, ?_, Nat.le_refl _, Nat.le_succ _⟩
          refine Nat.lt_of_le_of_lt (ob B _) ?_
          rw [hm]
          show (8 * B.length - (cI (s.at_ + 3) + 32)) * 1000 + s.ax + 1 < _
          omega
        · rw [CF hx1 k0 (by omega) hn] at h; cases h
    · by_cases k1 : aK B (s.at_ + 1) 2 = 1
      · rw [IS hx1 k1] at h; cases h
        refine ⟨⟨hx1, q2, q3, .inr (.inr (.inl rfl)), q5, fun _ => ⟨Bi, Bb, by show 0 < eY.length; rw [Gb]; decide, by show 0 < kz.length; rw [G9]; decide⟩, q7, q8⟩, ?_, Nat.le_refl _, Nat.le_succ _⟩
        refine Nat.lt_of_le_of_lt (ob B _) ?_
        rw [hm]
        show (8 * B.length - (s.at_ + 3)) * 1000 + s.ax + 1 < _
        omega
      · by_cases k2 : aK B (s.at_ + 1) 2 = 2
        · rcases fF (told B (s.at_ + 3)) with ⟨e, ht⟩ | ⟨⟨a, l, d⟩, ht⟩
          · rw [El hx1 k2 ht] at h; cases h
          · rw [D0 hx1 k2 ht] at h; cases h
            obtain ⟨t1, t2, t3, t4, t5, t6⟩ := Fv ht
            refine ⟨⟨t6, q2, q3, .inr (.inr (.inr rfl)), q5, fun _ => ⟨t1, t2, t3, t4⟩, q7, q8⟩, ?_, Nat.le_refl _, Nat.le_succ _⟩
            refine Nat.lt_of_le_of_lt (ob B _) ?_
            rw [hm]
            show (8 * B.length - a) * 1000 + s.ax + 1 < _
            omega
        · rw [Di hx1 k0 k1 k2] at h; cases h
  have hm := P3 (B := B) hk
  by_cases hk0 : s.kind = 0
  · by_cases hl : s.left = 0
    · rw [sT hc hk hk0 hl] at h; cases h
      refine ⟨⟨q1, q2, q3, .inl rfl, q5, fun h => absurd h (by show ¬ (0 : Int) < -1; omega), q7, q8⟩, ?_, Nat.le_refl _, Nat.le_succ _⟩
      rw [hm, Ji rfl]
      show (8 * B.length - s.at_) * 1000 + s.ax < _
      omega
    · by_cases hx : 8 * B.length < s.at_ + 8
      · rw [yC hc hk hk0 hl hx] at h; cases h
      · rw [ue hc hk hk0 hl (by omega)] at h
        have hb := bG B s.at_ 8
        refine rJ (by omega) h rfl ⟨by show s.at_ + 8 ≤ _; omega, q2, q3, q4, by show s.left - 1 < 65536; omega, q6, q7, q8⟩ ?_ (.inr trivial)
        refine Nat.lt_of_le_of_lt (ob B _) ?_
        rw [hm]
        show (8 * B.length - (s.at_ + 8)) * 1000 + s.ax + 1 < _
        omega
  · rw [wj hc hk hk0] at h
    have hkp : 0 < s.kind := by omega
    obtain ⟨e1, e2, z1, z2⟩ := q6 hkp
    rcases yg (B := B) (a := s.at_) e1 z1 with ⟨e, hs⟩ | ⟨y, a1, hs, y0, y1, a0, ha1⟩
    · rw [wi hs] at h; cases h
    by_cases hy : y < 256
    · rw [ni hs hy] at h
      refine rJ (by omega) h rfl ⟨ha1, q2, q3, q4, q5, q6, q7, q8⟩ ?_ (.inr trivial)
      refine Nat.lt_of_le_of_lt (ob B _) ?_
      rw [hm]
      show (8 * B.length - a1) * 1000 + s.ax + 1 < _
      omega
    by_cases hy2 : y = 256
    · rw [qD hs hy2] at h; cases h
      refine ⟨⟨ha1, q2, q3, .inl rfl, q5, fun h => absurd h (by show ¬ (0 : Int) < -1; omega), q7, q8⟩, ?_, Nat.le_refl _, Nat.le_succ _⟩
      refine Nat.lt_of_le_of_lt (ob B _) ?_
      rw [hm]
      show (8 * B.length - a1) * 1000 + s.ax + 1 < _
      omega
    rcases CN (B := B) (s := y - 257) (a := a1) (by omega) ha1 with ⟨e, hn⟩ | ⟨n, a2, hn, n0, n1, n2, n3⟩
    · rw [wm hs (by omega) hn] at h; cases h
    rcases Af (B := B) (a := a2) e2 z2 with ⟨e, hf⟩ | ⟨f, a3, hf, f0, f1, f2, f3⟩
    · rw [wy hs (by omega) hn hf] at h; cases h
    by_cases hfo : f ≤ s.out.length
    · rw [wv hs (by omega) hn hf (by omega)] at h; cases h
      refine ⟨⟨f3, q2, q3, q4, q5, q6, by show ((n : Int)).toNat < 400; omega, fun _ => by show 1 ≤ ((f : Int)).toNat ∧ ((f : Int)).toNat ≤ s.out.length; omega⟩, ?_, Nat.le_refl _, Nat.le_succ _⟩
      refine Nat.lt_of_le_of_lt (ob B _) ?_
      rw [hm]
      show (8 * B.length - a3) * 1000 + ((n : Int)).toNat + 1 < _
      omega
    · rw [wD hs (by omega) hn hf (by omega)] at h; cases h
inductive Lp (B : List Int) (mo : Int) (w : Nat) (n : Int) : St → Except Int St → Prop
  | stop {s : St} : (s.ended = true ∨ n ≤ (s.out.length : Int) - w) → Lp B mo w n s (.ok s)
  | step {s s' : St} {o : Except Int St} : s.ended = false → (s.out.length : Int) - w < n → one B mo s = .ok s' → Lp B mo w n s' o → Lp B mo w n s o
  | fail {s : St} {e : Int} : s.ended = false → (s.out.length : Int) - w < n → one B mo s = .error e → Lp B mo w n s (.error e)
theorem Ts {B : List Int} {mo : Int} (hB : an B) (w : Nat) (n : Int) : ∀ (k : Nat) {s : St}, mu B s ≤ k → Ok B mo s → ∃ o, Lp B mo w n s o := by
  intro k
  induction k with
  | zero =>
    intro s hk hok
    by_cases h1 : s.ended = true
    · exact ⟨_, .stop (.inl h1)⟩
    by_cases h2 : n ≤ (s.out.length : Int) - w
    · exact ⟨_, .stop (.inr h2)⟩
    rcases fF (one B mo s) with ⟨e, h⟩ | ⟨s2, h⟩
    · exact ⟨_, .fail (by simpa using h1) (by omega) h⟩
    · have := (kH hB hok h).less; omega
  | succ k ih =>
    intro s hk hok
    by_cases h1 : s.ended = true
    · exact ⟨_, .stop (.inl h1)⟩
    by_cases h2 : n ≤ (s.out.length : Int) - w
    · exact ⟨_, .stop (.inr h2)⟩
    rcases fF (one B mo s) with ⟨e, h⟩ | ⟨s2, h⟩
    · exact ⟨_, .fail (by simpa using h1) (by omega) h⟩
    · have hg := kH hB hok h
      have := hg.less
      obtain ⟨o, ho⟩ := ih (show mu B s2 ≤ k by omega) hg.ok
      exact ⟨o, .step (by simpa using h1) (by omega) h ho⟩
theorem KG {B : List Int} {mo : Int} {w : Nat} {n : Int} {s : St} {o : Except Int St} (hB : an B) (h : Lp B mo w n s o) : Ok B mo s → (∀ s2, o = .ok s2 → Ok B mo s2 ∧ mu B s2 ≤ mu B s ∧ gy B mo s s2 ∧ (s2.ended = true ∨ n ≤ (s2.out.length : Int) - w) ∧ (s.ended = false → (s.out.length : Int) - w < n → mu B s2 < mu B s) ∧ s.out.length ≤ s2.out.length) ∧ (∀ e, o = .error e → jf B mo s (.error e)) := by
  induction h with
  | stop h => intro hok; exact ⟨fun s2 e => by cases e; exact ⟨hok, Nat.le_refl _, .refl _ _ _, h, fun h1 h2 => by rcases h with h | h; (rw [h1] at h; cases h); omega, Nat.le_refl _⟩, fun e h => by cases h⟩
  | step h1 h2 h3 h4 ih =>
    intro hok
    have hg := kH hB hok h3
    have hl := hg.less
    have hle := hg.le
    obtain ⟨k1, k2⟩ := ih hg.ok
    refine ⟨fun s2 e => ?_, fun e h => .step h1 h3 (k2 e h)⟩
    obtain ⟨m1, m2, m3, m4, m5, m6⟩ := k1 s2 e
    exact ⟨m1, by omega, (gy.one h1 h3).trans m3, m4, fun _ _ => by omega, by omega⟩
  | fail h1 h2 h3 => intro hok; exact ⟨fun s2 e => (by cases e), fun e h => by cases h; exact .fail h1 h3⟩
abbrev Jt := Except Int St
def jP : Jt → Bool
  | .ok s => s.ended
  | .error _ => true
def qg : Jt → List Int
  | .ok s => if s.ended = true then s.out else []
  | .error _ => []
def BG : Jt → Int
  | .ok _ => 0
  | .error e => e
def qH : Jt → Int
  | .ok s => if s.ended = true then ((s.at_ + 7) / 8 : Nat) else 0
  | .error _ => 0
def vt (B : List Int) (mo : Int) : Jt → Prop
  | .ok s => Ok B mo s
  | .error e => e ≠ 0
def Cg (B : List Int) (mo n : Int) (r r' : Jt) : Prop := ((n < 1 ∨ jP r = true) ∧ r' = r) ∨ (1 ≤ n ∧ ∃ s, r = .ok s ∧ s.ended = false ∧ Lp B mo s.out.length n s r')
def FH (B : List Int) (mo : Int) (s0 : St) : Jt → Prop
  | .ok s => gy B mo s0 s
  | .error e => jf B mo s0 (.error e)
def Ou : Oc → List Int × Int × Int
  | .ok (x, n) => (x, (n : Int), 0)
  | .error e => ([], 0, e)
theorem nW {B : List Int} {mo : Int} (h : 0 ≤ mo) : Ok B mo start := ⟨Nat.zero_le _, by show ((0 : Nat) : Int) ≤ mo; omega, fun x hx => (by cases hx), .inl rfl, by decide, fun h => absurd h (by decide), by decide, fun h => absurd h (by decide)⟩
end Go.ab
namespace Go.ab
section
variable {B : List Int} {mo n e : Int} {w : Nat} {s s2 : St} {o : Except Int St}
theorem JF (h : Lp B mo w n s o) (k : s.ended = true ∨ n ≤ (s.out.length : Int) - w) : o = .ok s := by
  cases h with
  | stop _ => rfl
  | step h1 h2 => exfalso; rcases k with k | k; (rw [h1] at k; cases k); omega
  | fail h1 h2 => exfalso; rcases k with k | k; (rw [h1] at k; cases k); omega
theorem Tl (h : Lp B mo w n s o) (k1 : s.ended = false) (k2 : (s.out.length : Int) - w < n) (p : one B mo s = .ok s2) : Lp B mo w n s2 o := by
  cases h with
  | stop h => exfalso; rcases h with k | k; (rw [k1] at k; cases k); omega
  | step _ _ h3 h4 => rw [h3] at p; cases p; exact h4
  | fail _ _ h3 => rw [h3] at p; cases p
theorem TE (h : Lp B mo w n s o) (k1 : s.ended = false) (k2 : (s.out.length : Int) - w < n) (p : one B mo s = .error e) : o = .error e := by
  cases h with
  | stop h => exfalso; rcases h with k | k; (rw [k1] at k; cases k); omega
  | step _ _ h3 h4 => rw [h3] at p; cases p
  | fail _ _ h3 => rw [h3] at p; cases p; rfl
end
end Go.ab
namespace Go.ab
open Go.ag Go.ae
section
variable {B : List Int} {mo e : Int}
theorem xg {ls : List Int} {a : Nat} (h : sym ls B a = .error e) : e ≠ 0 := by
  unfold sym at h; split at h <;> cases h <;> decide
theorem OV {l : List Int} {s : Int} {a : Nat} (h : rep B s l a = .error e) : e ≠ 0 := by
  unfold rep at h
  split at h
  · cases h
  split at h
  · cases h; decide
  split at h
  · cases h; decide
  · cases h
theorem Ki {c : List Int} {tot : Nat} : ∀ {f : Nat} {l : List Int} {a : Nat}, eE B c tot f l a = .error e → e ≠ 0 := by
  intro f
  induction f with
  | zero => intro l a h; cases h
  | succ f ih =>
    intro l a h
    simp only [eE] at h
    split at h
    · rcases Cz B c l a with ⟨e2, hs⟩ | ⟨sy, x2, e2, hs, hr⟩ | ⟨sy, x2, v, n, x3, hs, hr⟩
      · rw [r5 hs] at h; cases h; exact xg hs
      · rw [rU hs hr] at h; cases h; exact OV hr
      · rw [l8 hs hr] at h
        simp only at h
        split at h
        · exact ih h
        · cases h; decide
    · cases h
theorem JP {a : Nat} (h : told B a = .error e) : e ≠ 0 := by
  unfold told at h
  split at h
  · cases h; decide
  split at h
  · cases h; decide
  split at h
  · cases h; decide
  split at h
  · cases h; decide
  split at h
  · rename_i e2 h2; cases h; exact Ki h2
  · split at h
    · cases h; decide
    · cases h
theorem yz {s : St} {y : Int} (h : dS mo s y = .error e) : e ≠ 0 := by
  unfold dS at h; split at h <;> cases h; decide
theorem Mt {s : Int} {a : Nat} (h : ew B s a = .error e) : e ≠ 0 := by
  unfold ew at h
  split at h
  · cases h; decide
  split at h
  · cases h; decide
  · cases h
theorem Kv {ds : List Int} {a : Nat} (h : dw B ds a = .error e) : e ≠ 0 := by
  unfold dw at h
  split at h
  · rename_i e2 h2; cases h; exact xg h2
  · split at h
    · cases h; decide
    split at h
    · cases h; decide
    · cases h
theorem HI {s : St} (h : cF B s = .error e) : e ≠ 0 := by
  unfold cF at h
  split at h
  · cases h; decide
  split at h
  · split at h
    · cases h; decide
    split at h
    · cases h
    · cases h; decide
  split at h
  · cases h
  split at h
  · split at h
    · rename_i e2 h2; cases h; exact JP h2
    · cases h
  · cases h; decide
theorem Hk {s : St} (h : dU B mo s = .error e) : e ≠ 0 := by
  rcases fF (sym s.lits B s.at_) with ⟨e2, hs⟩ | ⟨⟨y, a⟩, hs⟩
  · rw [wi hs] at h; cases h; exact xg hs
  by_cases h1 : y < 256
  · rw [ni hs h1] at h; exact yz h
  by_cases h2 : y = 256
  · rw [qD hs h2] at h; cases h
  rcases fF (ew B (y - 257) a) with ⟨e2, hn⟩ | ⟨⟨n, a2⟩, hn⟩
  · rw [wm hs (by omega) hn] at h; cases h; exact Mt hn
  rcases fF (dw B s.dG a2) with ⟨e2, hf⟩ | ⟨⟨f, a3⟩, hf⟩
  · rw [wy hs (by omega) hn hf] at h; cases h; exact Kv hf
  by_cases h3 : f ≤ s.out.length
  · rw [wv hs (by omega) hn hf h3] at h; cases h
  · rw [wD hs (by omega) hn hf h3] at h; cases h; decide
theorem EI {s : St} (h : one B mo s = .error e) : e ≠ 0 := by
  unfold one at h
  split at h
  · exact yz h
  split at h
  · exact HI h
  split at h
  · exact Hk h
  split at h
  · cases h
  split at h
  · cases h; decide
  · exact yz h
theorem IC {s : St} {w : Nat} {n : Int} {o : Jt} (h : Lp B mo w n s o) : o = .error e → e ≠ 0 := by
  induction h with
  | stop _ => intro h; cases h
  | step _ _ _ _ ih => exact ih
  | fail _ _ h => intro q; cases q; exact EI h
theorem Kk {s : St} {o : Oc} (h : jf B mo s o) : o = .error e → e ≠ 0 := by
  induction h with
  | done _ => intro h; cases h
  | step _ _ _ ih => exact ih
  | fail _ h => intro q; cases q; exact EI h
end
def CM (B : List Int) : Jt → Nat
  | .ok s => mu B s + 1
  | .error _ => 0
def Cc : Jt → Nat
  | .ok s => s.out.length
  | .error _ => 0
theorem Hh {B : List Int} {mo : Int} {r : Jt} (hB : an B) (hok : vt B mo r) (n : Int) : ∃ r', Cg B mo n r r' := by
  by_cases hn : n < 1
  · exact ⟨r, .inl ⟨.inl hn, rfl⟩⟩
  cases r with
  | error e => exact ⟨_, .inl ⟨.inr rfl, rfl⟩⟩
  | ok s =>
    cases he : s.ended with
    | true => exact ⟨_, .inl ⟨.inr he, rfl⟩⟩
    | false =>
      obtain ⟨o, ho⟩ := Ts hB s.out.length n _ (Nat.le_refl _) hok
      exact ⟨o, .inr ⟨by omega, s, rfl, he, ho⟩⟩
structure S7 (B : List Int) (mo : Int) (s0 : St) (n : Int) (r r' : Jt) : Prop where
  ok : vt B mo r'
  at_ : FH B mo s0 r'
  le : CM B r' ≤ CM B r
  less : jP r = false → 1 ≤ n → CM B r' < CM B r
  out : jP r = false → 1 ≤ n → jP r' = true ∨ Cc r + 1 ≤ Cc r'
  stay : (n < 1 ∨ jP r = true) → r' = r
theorem BT {B : List Int} {mo n : Int} {s0 : St} {r r' : Jt} (hB : an B) (hok : vt B mo r) (hat : FH B mo s0 r) (h : Cg B mo n r r') : S7 B mo s0 n r r' := by
  rcases h with ⟨hx, rfl⟩ | ⟨hn, s, rfl, he, hl⟩
  · refine ⟨hok, hat, Nat.le_refl _, fun h1 h2 => ?_, fun h1 h2 => ?_, fun _ => rfl⟩ <;> (exfalso; rcases hx with hx | hx; omega; rw [h1] at hx; cases hx)
  · obtain ⟨k1, k2⟩ := KG hB hl hok
    cases r' with
    | ok s2 =>
      obtain ⟨m1, m2, m3, m4, m5, m6⟩ := k1 s2 rfl
      have := m5 he (by omega)
      refine ⟨m1, hat.trans m3, by show mu B s2 + 1 ≤ mu B s + 1; omega, fun _ _ => by show mu B s2 + 1 < mu B s + 1; omega, fun _ _ => ?_, fun hx => ?_⟩
      · rcases m4 with m4 | m4
        · exact .inl m4
        · right; show s.out.length + 1 ≤ s2.out.length; omega
      · exfalso; rcases hx with hx | hx
        · omega
        · rw [show jP (.ok s) = s.ended from rfl, he] at hx; cases hx
    | error e =>
      refine ⟨IC hl rfl, hat _ (k2 e rfl), Nat.zero_le _, fun _ _ => Nat.succ_pos _, fun _ _ => .inl rfl, fun hx => ?_⟩
      exfalso; rcases hx with hx | hx
      · omega
      · rw [show jP (.ok s) = s.ended from rfl, he] at hx; cases hx
def iU (B : List Int) (mo : Int) (q : List Int × Int × Int) : Prop := (mo < 0 ∧ q = ([], 0, 1)) ∨ (0 ≤ mo ∧ ∃ o, jf B mo start o ∧ q = Ou o)
theorem iU.Fu {B : List Int} {mo : Int} {q q' : List Int × Int × Int} (h : iU B mo q) (h' : iU B mo q') : q = q' := by
  rcases h with ⟨a, rfl⟩ | ⟨a, o, r, rfl⟩ <;> rcases h' with ⟨a', rfl⟩ | ⟨a', o', r', rfl⟩
  · rfl
  · omega
  · omega
  · rw [r.Fu r']
theorem KX {B : List Int} {mo : Int} {r : Jt} (hm : 0 ≤ mo) (h : FH B mo start r) (he : jP r = true) : iU B mo (qg r, qH r, BG r) := by
  refine .inr ⟨hm, ?_⟩
  cases r with
  | ok s => exact ⟨.ok (s.out, (s.at_ + 7) / 8), h _ (.done he), by simp only [qg, qH, BG, Ou]; rw [if_pos (show s.ended = true from he), if_pos (show s.ended = true from he)]⟩
  | error e => exact ⟨.error e, h, rfl⟩
theorem D6 {B : List Int} {mo : Int} (hB : an B) {s : St} {o : Oc} (h : jf B mo s o) : Ok B mo s → ∀ x n, o = .ok (x, n) → (x.length : Int) ≤ mo ∧ n ≤ B.length ∧ an x := by
  induction h with
  | done h => intro hok x n e; cases e; exact ⟨hok.room, by have := hok.at_; omega, hok.pS⟩
  | step h1 h2 h3 ih => intro hok; exact ih (kH hB hok h2).ok
  | fail _ _ => intro _ x n e; cases e
end Go.ab
namespace Go.ab
open Go.ag Go.ae
def ZE (mo : Int) : Jt := if mo < 0 then .error 1 else .ok start
structure Way (B : List Int) (mo : Int) (r : Jt) : Prop where
  ok : vt B mo r
  at_ : (0 ≤ mo ∧ FH B mo start r) ∨ (mo < 0 ∧ r = .error 1)
structure ZP (B : List Int) (mo n : Int) (r r' : Jt) : Prop where
  way : Way B mo r'
  out : jP r = false → 1 ≤ n → jP r' = true ∨ Cc r + 1 ≤ Cc r'
  stay : (n < 1 ∨ jP r = true) → r' = r
end Go.ab
namespace Go.ab
open Go.ag Go.ae
end Go.ab
namespace Go.ab
open Go.ag Go.ae
def Zs : List Int := [3, 4, 5, 6, 7, 8, 9, 10, 11, 13, 15, 17, 19, 23, 27, 31, 35, 43, 51, 59, 67, 83, 99, 115, 131, 163, 195, 227, 258]
def Zy : List Int := [0, 0, 0, 0, 0, 0, 0, 0, 1, 1, 1, 1, 2, 2, 2, 2, 3, 3, 3, 3, 4, 4, 4, 4, 5, 5, 5, 5, 0]
structure Dn (B : List Int) (mo : Int) (S S' : St) : Prop where
 BC : gy B mo S S'
 ok : Ok B mo S'
 kind : S'.kind = -1
 ax : S'.ax = 0
 ended : S'.ended = S'.last
 last : S'.last = S.last
structure In (B : List Int) (mo : Int) (S s : St) : Prop where
 BC : gy B mo S s
 ok : Ok B mo s
 kind : s.kind = S.kind
 ax : s.ax = 0
 ended : s.ended = false
 last : s.last = S.last
 lits : s.lits = S.lits
 dG : s.dG = S.dG
section
variable {B : List Int} {mo e : Int} {S s s2 : St}
end
end Go.ab
namespace Go.ab
open Go.ag Go.ae
inductive Bl (B : List Int) (mo : Int) : St → Except Int St → Prop
 | done {s : St} : s.kind = -1 → Bl B mo s (.ok s)
 | step {s s' : St} {o : Except Int St} : ¬ s.kind = -1 → one B mo s = .ok s' → Bl B mo s' o → Bl B mo s o
 | fail {s : St} {e : Int} : ¬ s.kind = -1 → one B mo s = .error e → Bl B mo s (.error e)
section
variable {B : List Int} {mo e : Int} {s s2 : St} {o : Except Int St}
structure Left (B : List Int) (mo : Int) (s s2 : St) : Prop where
 BC : gy B mo s s2
 ok : Ok B mo s2
 kind : s2.kind = -1
 ax : s2.ax = 0
 ended : s2.ended = s2.last
 last : s2.last = s.last
 less : mu B s2 ≤ mu B s
end
def BO (B : List Int) (mo : Int) (S : St) (o : Except Int St) : Prop := (∃ e, cF B S = .error e ∧ o = .error e) ∨ (∃ S1, cF B S = .ok S1 ∧ Bl B mo S1 o)
section
variable {B : List Int} {mo e : Int} {S S1 : St} {o : Except Int St}
end
section
variable {B ds : List Int} {s d : Int} {a a3 n : Nat}
end
end Go.ab
namespace Go.ab
end Go.ab
namespace Go.ab
end Go.ab
namespace Go.ab
open Go.ag
end Go.ab
namespace Go.ab
open Go.ag Go.ae
def run (B : List Int) (mo : Int) : Nat → St → Option Oc
  | 0, _ => none
  | f + 1, s => if s.ended = true then some (.ok (s.out, (s.at_ + 7) / 8)) else match one B mo s with
    | .error e => some (.error e)
    | .ok s' => run B mo f s'
def ZF (B : List Int) (mo : Int) (f : Nat) (q : List Int × Int × Int) : Bool := match run B mo f start with
  | some o => decide (Ou o = q)
  | none => false
end Go.ab
namespace Go.ab
end Go.ab
namespace Go.ab
open Go.ag Go.ae
section
variable {B : List Int} {mo mo' y : Int} {s s2 : St}
theorem yY (h : dS mo s y = .ok s2) : ((s2.out.length : Int) ≤ mo' → dS mo' s y = .ok s2) ∧ (mo' < s2.out.length → dS mo' s y = .error 6) := by
  obtain ⟨k, rfl⟩ := qy h
  have hl : ({ s with out := s.out ++ [y] } : St).out.length = s.out.length + 1 := by simp
  rw [hl]
  exact ⟨fun h => lL (by omega), fun h => mb (by omega)⟩
theorem F3 (h : dU B mo s = .ok s2) (hs : (s.out.length : Int) ≤ mo') : ((s2.out.length : Int) ≤ mo' → dU B mo' s = .ok s2) ∧ (mo' < s2.out.length → dU B mo' s = .error 6) := by
  rcases fF (sym s.lits B s.at_) with ⟨e, h1⟩ | ⟨⟨y, a⟩, h1⟩
  · rw [wi h1] at h; cases h
  by_cases hy : y < 256
  · rw [ni h1 hy] at h ⊢; exact yY h
  by_cases hy2 : y = 256
  · rw [qD h1 hy2] at h ⊢; cases h; exact ⟨fun _ => rfl, fun k => by simp only at k; omega⟩
  rcases fF (ew B (y - 257) a) with ⟨e, hn⟩ | ⟨⟨n, a2⟩, hn⟩
  · rw [wm h1 (by omega) hn] at h; cases h
  rcases fF (dw B s.dG a2) with ⟨e, hf⟩ | ⟨⟨f, a3⟩, hf⟩
  · rw [wy h1 (by omega) hn hf] at h; cases h
  by_cases hfo : f ≤ s.out.length
  · rw [wv h1 (by omega) hn hf hfo] at h ⊢; cases h; exact ⟨fun _ => rfl, fun k => by simp only at k; omega⟩
  · rw [wD h1 (by omega) hn hf hfo] at h; cases h
theorem xz (h : one B mo s = .ok s2) (hs : (s.out.length : Int) ≤ mo') : ((s2.out.length : Int) ≤ mo' → one B mo' s = .ok s2) ∧ (mo' < s2.out.length → one B mo' s = .error 6) := by
  by_cases hc : 0 < s.ax
  · unfold one at h ⊢; rw [if_pos hc] at h ⊢; exact yY h
  by_cases hk : s.kind = -1
  · rw [sZ hc hk] at h ⊢
    refine ⟨fun _ => h, fun k => ?_⟩
    exfalso
    have : s2.out = s.out := by
      unfold cF at h
      split at h
      · cases h
      split at h
      · split at h
        · cases h
        split at h
        · cases h; rfl
        · cases h
      split at h
      · cases h; rfl
      split at h
      · split at h
        · cases h
        · cases h; rfl
      · cases h
    rw [this] at k; omega
  by_cases hk0 : s.kind = 0
  · by_cases hl : s.left = 0
    · rw [sT hc hk hk0 hl] at h ⊢; cases h; exact ⟨fun _ => rfl, fun k => by simp only at k; omega⟩
    · by_cases hx : 8 * B.length < s.at_ + 8
      · rw [yC hc hk hk0 hl hx] at h; cases h
      · rw [ue hc hk hk0 hl (by omega)] at h ⊢; exact yY h
  · rw [wj hc hk hk0] at h ⊢; exact F3 h hs
theorem A9 {o : Oc} (hB : an B) (h : jf B mo s o) : Ok B mo s → ∀ x n, o = .ok (x, n) → s.out.length ≤ x.length ∧ ((x.length : Int) ≤ mo' → jf B mo' s (.ok (x, n))) ∧ ((s.out.length : Int) ≤ mo' → mo' < x.length → jf B mo' s (.error 6)) := by
  induction h with
  | done h => intro hok x n e; cases e; exact ⟨Nat.le_refl _, fun _ => .done h, fun h1 h2 => by omega⟩
  | step h1 h2 h3 ih =>
    intro hok x n e
    have hg := kH hB hok h2
    obtain ⟨k1, k2, k3⟩ := ih hg.ok x n e
    have hle := hg.le
    refine ⟨by omega, fun k => .step h1 ((xz h2 (by omega)).1 (by omega)) (k2 k), fun q1 q2 => ?_⟩
    rename_i s' _
    by_cases hc : mo' < s'.out.length
    · exact .fail h1 ((xz h2 q1).2 hc)
    · exact .step h1 ((xz h2 q1).1 (by omega)) (k3 (by omega) q2)
  | fail _ _ => intro _ x n e; cases e
end
end Go.ab
namespace Go.ab
open Go.ag Go.ae
section
variable {B : List Int}
theorem iG (j i : Nat) (hi : i < 8) : ic B (8 * j + i) = B.getD j 0 / 2 ^ i % 2 := by
 unfold ic
 rw [show (8 * j + i) / 8 = j by omega, show (8 * j + i) % 8 = i by omega]
theorem tX (a m : Nat) : ∀ n, aK B a (m + n) = aK B a m + aK B (a + m) n * 2 ^ m
 | 0 => by simp [aK]
 | n + 1 => by
  have := tX a m n
  show aK B a (m + n) + ic B (a + (m + n)) * 2 ^ (m + n) = aK B a m + (aK B (a + m) n + ic B (a + m + n) * 2 ^ n) * 2 ^ m
  rw [this, Int.add_mul, Int.add_assoc, Nat.add_assoc a m n, Int.mul_assoc, ← Int.pow_add, Nat.add_comm n m]
theorem xP {j : Nat} (hb : 0 ≤ B.getD j 0 ∧ B.getD j 0 < 256) : aK B (8 * j) 8 = B.getD j 0 := by
 simp only [aK]
 rw [show 8 * j + 0 = 8 * j + 0 from rfl, iG j 0 (by omega), iG j 1 (by omega), iG j 2 (by omega), iG j 3 (by omega), iG j 4 (by omega), iG j 5 (by omega), iG j 6 (by omega), iG j 7 (by omega)]
 generalize B.getD j 0 = b at hb ⊢
 simp only [show (2 : Int) ^ 0 = 1 from rfl, show (2 : Int) ^ 1 = 2 from rfl, show (2 : Int) ^ 2 = 4 from rfl, show (2 : Int) ^ 3 = 8 from rfl, show (2 : Int) ^ 4 = 16 from rfl, show (2 : Int) ^ 5 = 32 from rfl, show (2 : Int) ^ 6 = 64 from rfl, show (2 : Int) ^ 7 = 128 from rfl]
 omega
theorem AD {j : Nat} (hb : 0 ≤ B.getD j 0 ∧ B.getD j 0 < 256) (hc : 0 ≤ B.getD (j + 1) 0 ∧ B.getD (j + 1) 0 < 256) : aK B (8 * j) 16 = B.getD j 0 + 256 * B.getD (j + 1) 0 := by
 rw [show (16 : Nat) = 8 + 8 from rfl, tX, xP hb, show 8 * j + 8 = 8 * (j + 1) by omega, xP hc]
 omega
theorem HG {mo : Int} (hB : an B) : ∀ (X : List Int) {s : St} {pos : Nat}, s.kind = 0 → s.ax = 0 → s.ended = false → s.left = X.length → s.at_ = 8 * pos → (∀ i, i < X.length → B.getD (pos + i) 0 = X.getD i 0) → pos + X.length ≤ B.length → (s.out.length : Int) + X.length ≤ mo →
  ∃ s', gy B mo s s' ∧ s'.at_ = 8 * (pos + X.length) ∧ s'.out = s.out ++ X ∧ s'.kind = -1 ∧ s'.ax = 0 ∧ s'.ended = s.last := by
 intro X
 induction X with
 | nil =>
  intro s pos hk hc he hl ha hx hp hm
  have h1 := sT (B := B) (mo := mo) (s := s) (by omega) (by omega) hk hl
  exact ⟨_, gy.one he h1, by simpa using ha, by simp, rfl, hc, rfl⟩
 | cons x X ih =>
  intro s pos hk hc he hl ha hx hp hm
  have hx0 : B.getD pos 0 = x := by simpa using hx 0 (by simp)
  have hp2 : pos + (X.length + 1) ≤ B.length := by simpa using hp
  have hl2 : s.left = X.length + 1 := by simpa using hl
  have hm2 : (s.out.length : Int) + (X.length + 1) ≤ mo := by simpa using hm
  have h1 := CZ (B := B) (mo := mo) (s := s) (by omega) (by omega) hk (by omega) (by omega) (by omega)
  rw [ha, xP (hB.get pos), hx0] at h1
  obtain ⟨s', g, a1, a2, a3, a4, a5⟩ := ih (s := { s with at_ := 8 * pos + 8, left := s.left - 1, out := s.out ++ [x] }) (pos := pos + 1) hk hc he (by show s.left - 1 = X.length; omega) (by show 8 * pos + 8 = 8 * (pos + 1); omega) (fun i hi => by
   have := hx (i + 1) (by simp; omega)
   rw [show pos + 1 + i = pos + (i + 1) by omega, this]; simp) (by omega) (by show ((s.out ++ [x]).length : Int) + X.length ≤ mo; simp; omega)
  exact ⟨s', (gy.one he h1).trans g, by rw [a1]; simp; omega, by rw [a2]; simp, a3, a4, a5⟩
def eZ (la : Int) (X : List Int) : List Int := [la, (X.length : Int) % 256, (X.length : Int) / 256, 255 - (X.length : Int) % 256, 255 - (X.length : Int) / 256] ++ X
theorem kb (la : Int) (X : List Int) : (eZ la X).length = 5 + X.length := by simp [eZ]; omega
theorem vh {mo : Int} (hB : an B) {s : St} {pos : Nat} {la : Int} {X : List Int} (hla : la = 0 ∨ la = 1) (hX : X.length ≤ 65535) (hk : s.kind = -1) (hc : s.ax = 0) (he : s.ended = false) (ha : s.at_ = 8 * pos) (hx : ∀ i, i < (eZ la X).length → B.getD (pos + i) 0 = (eZ la X).getD i 0) (hp : pos + (eZ la X).length ≤ B.length) (hm : (s.out.length : Int) + X.length ≤ mo) :
  ∃ s', gy B mo s s' ∧ s'.at_ = 8 * (pos + (eZ la X).length) ∧ s'.out = s.out ++ X ∧ s'.kind = -1 ∧ s'.ax = 0 ∧ s'.ended = decide (la = 1) := by
 have hbl := kb la X
 have b0 : B.getD pos 0 = la := by simpa [eZ] using hx 0 (by omega)
 have b1 : B.getD (pos + 1) 0 = (X.length : Int) % 256 := by simpa [eZ] using hx 1 (by omega)
 have b2 : B.getD (pos + 2) 0 = (X.length : Int) / 256 := by simpa [eZ] using hx 2 (by omega)
 have b3 : B.getD (pos + 3) 0 = 255 - (X.length : Int) % 256 := by simpa [eZ] using hx 3 (by omega)
 have b4 : B.getD (pos + 4) 0 = 255 - (X.length : Int) / 256 := by simpa [eZ] using hx 4 (by omega)
 have e0 : aK B s.at_ 1 = la := by
  rw [ha, w8, show 8 * pos = 8 * pos + 0 from rfl, iG pos 0 (by omega), b0]
  rcases hla with rfl | rfl <;> rfl
 have e1 : aK B (s.at_ + 1) 2 = 0 := by
  rw [ha]
  simp only [aK]
  rw [show 8 * pos + 1 + 0 = 8 * pos + 1 from rfl, show 8 * pos + 1 + 1 = 8 * pos + 2 from rfl, iG pos 1 (by omega), iG pos 2 (by omega), b0]
  rcases hla with rfl | rfl <;> rfl
 have hal : cI (s.at_ + 3) = 8 * (pos + 1) := by rw [xG, ha]; omega
 have n1 : aK B (cI (s.at_ + 3)) 16 = (X.length : Int) := by rw [hal, AD (hB.get _) (hB.get _), b1, show pos + 1 + 1 = pos + 2 from rfl, b2]; omega
 have n2 : aK B (cI (s.at_ + 3) + 16) 16 = 65535 - (X.length : Int) := by rw [hal, show 8 * (pos + 1) + 16 = 8 * (pos + 3) by omega, AD (hB.get _) (hB.get _), b3, show pos + 3 + 1 = pos + 4 from rfl, b4]; omega
 have hb := yQ (B := B) (s := s) (by omega) e1 (by omega) (by rw [n1, n2]; omega)
 have h1 := (sZ (B := B) (mo := mo) (s := s) (by omega) hk).trans hb
 rw [n1, e0, hal] at h1
 obtain ⟨s', g, a1, a2, a3, a4, a5⟩ := HG (mo := mo) hB X (s := { s with at_ := 8 * (pos + 1) + 32, kind := 0, left := ((X.length : Int)).toNat, last := decide (la = 1) }) (pos := pos + 5) rfl hc he (by show ((X.length : Int)).toNat = X.length; omega) (by show 8 * (pos + 1) + 32 = 8 * (pos + 5); omega) (fun i hi => by
  have := hx (5 + i) (by omega)
  rw [show pos + 5 + i = pos + (5 + i) by omega, this]; simp [eZ, Nat.add_comm 5 i]) (by omega) hm
 exact ⟨s', (gy.one he h1).trans g, by rw [a1]; omega, a2, a3, a4, a5⟩
def eQ : List (List Int) → List Int
 | [] => []
 | [X] => eZ 1 X
 | X :: Y :: L => eZ 0 X ++ eQ (Y :: L)
theorem zf (a b : List Int) (i : Nat) (h : i < a.length) : (a ++ b).getD i 0 = a.getD i 0 := by
 rw [List.getD_eq_getElem?_getD, List.getElem?_append_left h, ← List.getD_eq_getElem?_getD]
theorem cN (a b : List Int) (i : Nat) : (a ++ b).getD (a.length + i) 0 = b.getD i 0 := by
 rw [List.getD_eq_getElem?_getD, List.getElem?_append_right (by omega), Nat.add_sub_cancel_left, ← List.getD_eq_getElem?_getD]
theorem F0 {mo : Int} (hB : an B) : ∀ (L : List (List Int)) {s : St} {pos : Nat}, L ≠ [] → (∀ X ∈ L, X.length ≤ 65535) → s.kind = -1 → s.ax = 0 → s.ended = false → s.at_ = 8 * pos → (∀ i, i < (eQ L).length → B.getD (pos + i) 0 = (eQ L).getD i 0) → pos + (eQ L).length ≤ B.length → (s.out.length : Int) + L.flatten.length ≤ mo →
  ∃ s', gy B mo s s' ∧ s'.at_ = 8 * (pos + (eQ L).length) ∧ s'.out = s.out ++ L.flatten ∧ s'.ended = true := by
 intro L
 induction L with
 | nil => intro s pos h; exact (h rfl).elim
 | cons X L ih =>
  intro s pos _ hL hk hc he ha hx hp hm
  cases L with
  | nil =>
   obtain ⟨s', g, a1, a2, a3, a4, a5⟩ := vh (mo := mo) hB (.inr rfl) (hL X (List.mem_cons_self ..)) hk hc he ha hx hp (by simpa using hm)
   exact ⟨s', g, a1, by simpa using a2, a5⟩
  | cons Y L =>
   have hlen : (eQ (X :: Y :: L)).length = (eZ 0 X).length + (eQ (Y :: L)).length := by simp [eQ]
   have hfl : (X :: Y :: L).flatten.length = X.length + (Y :: L).flatten.length := by simp
   obtain ⟨s', g, a1, a2, a3, a4, a5⟩ := vh (mo := mo) hB (.inl rfl) (hL X (List.mem_cons_self ..)) hk hc he ha (fun i hi => by rw [hx i (by omega)]; exact zf _ _ _ hi) (by omega) (by omega)
   obtain ⟨s2, g2, c1, c2, c3⟩ := ih (s := s') (pos := pos + (eZ 0 X).length) (by simp) (fun Z hZ => hL Z (List.mem_cons_of_mem _ hZ)) a3 a4 (by rw [a5]; rfl) a1 (fun i hi => by
    rw [show pos + (eZ 0 X).length + i = pos + ((eZ 0 X).length + i) by omega, hx _ (by omega)]; exact cN _ _ _) (by omega) (by rw [a2]; simp only [List.length_append]; omega)
   exact ⟨s2, g.trans g2, by rw [c1, hlen]; omega, by rw [c2, a2]; simp, c3⟩
end
theorem yO {la : Int} {X : List Int} (hla : la = 0 ∨ la = 1) (hX : X.length ≤ 65535) (h : an X) : an (eZ la X) := by
 intro x hx
 unfold eZ at hx
 rcases List.mem_append.1 hx with hx | hx
 ·simp only [List.mem_cons, List.not_mem_nil, or_false] at hx
  rcases hx with rfl | rfl | rfl | rfl | rfl <;> omega
 ·exact h x hx
theorem rW : ∀ (L : List (List Int)), (∀ X ∈ L, X.length ≤ 65535 ∧ an X) → an (eQ L)
 | [], _ => fun x hx => by cases hx
 | [X], h => yO (.inr rfl) (h X (List.mem_cons_self ..)).1 (h X (List.mem_cons_self ..)).2
 | X :: Y :: L, h => fun x hx => by
  rcases List.mem_append.1 hx with hx | hx
  ·exact yO (.inl rfl) (h X (List.mem_cons_self ..)).1 (h X (List.mem_cons_self ..)).2 x hx
  ·exact rW (Y :: L) (fun Z hZ => h Z (List.mem_cons_of_mem _ hZ)) x hx
theorem Hs {L : List (List Int)} (hne : L ≠ []) (hL : ∀ X ∈ L, X.length ≤ 65535 ∧ an X) {t : List Int} (ht : an t) : iU (eQ L ++ t) L.flatten.length (L.flatten, ((eQ L).length : Int), 0) ∧ ∀ mo : Int, 0 ≤ mo → mo < L.flatten.length → iU (eQ L ++ t) mo ([], 0, 6) := by
 have hB : an (eQ L ++ t) := fun x hx => by
  rcases List.mem_append.1 hx with hx | hx
  ·exact rW L hL x hx
  ·exact ht x hx
 obtain ⟨s', g, a1, a2, a3⟩ := F0 (mo := L.flatten.length) hB L (s := start) (pos := 0) hne (fun X hX => (hL X hX).1) rfl rfl rfl rfl (fun i hi => by rw [Nat.zero_add]; exact zf _ _ _ hi) (by rw [List.length_append]; omega) (by show ((0 : Nat) : Int) + _ ≤ _; omega)
 have hr : jf (eQ L ++ t) L.flatten.length start (.ok (L.flatten, (eQ L).length)) := by
  have := g _ (.done a3)
  rw [a2, a1, show (8 * (0 + (eQ L).length) + 7) / 8 = (eQ L).length by omega, show start.out ++ L.flatten = L.flatten from rfl] at this
  exact this
 refine ⟨.inr ⟨by omega, _, hr, rfl⟩, fun mo h0 h1 => ?_⟩
 have hm := (A9 (mo' := mo) hB hr (nW (by omega)) _ _ rfl).2.2 (by show ((0 : Nat) : Int) ≤ mo; omega) h1
 exact .inr ⟨h0, _, hm, rfl⟩
def MO (L : List (List Int)) : Nat → List Int
 | 0 => []
 | i + 1 => MO L i ++ eZ (if i + 1 = L.length then 1 else 0) (L.getD i [])
end Go.ab
namespace Go.ab
open Go.ag Go.ae
structure Bk (L : List (List Int)) (i : Nat) : Prop where
 le : i ≤ L.length
 Yd : ∀ j, j < i → (L.getD j []).length ≤ 1000
 pS : ∀ j, j < i → an (L.getD j [])
 ZC : (L.take i).flatten.length ≤ 1000 * i
 ZJ : (MO L i).length ≤ 1005 * i
end Go.ab
namespace Go.ag
structure Po (bs : List Int) (i : Nat) (o : List Int) : Prop where
 len : o.length = (bs.length + 7) / 8
 pS : an o
 get : ∀ k, k < i → ic o k = bs.getD k 0
 zero : ∀ k, i ≤ k → ic o k = 0
end Go.ag
namespace Go.ab
open Go.ag Go.ae
def fxX (s : Int) : Int := if 280 ≤ s then 192 + s - 280 else if 256 ≤ s then s - 256 else if 144 ≤ s then 400 + s - 144 else 48 + s
def fxN (s : Int) : Nat := if 280 ≤ s then 8 else if 256 ≤ s then 7 else if 144 ≤ s then 9 else 8
structure Pq (bs o : List Int) : Prop where
 pS : an o
 len : bs.length ≤ 8 * o.length
 get : ∀ i, i < bs.length → ic o i = bs.getD i 0
section
variable {bs o u w r out : List Int} {mo s y d : Int} {z : St}
structure Rd (o : List Int) (mo : Int) (z : St) (a : Nat) (out : List Int) : Prop where
 BC : gy o mo start z
 at_ : z.at_ = a
 out : z.out = out
 kind : z.kind = 1
 ax : z.ax = 0
 ended : z.ended = false
 last : z.last = true
 lits : z.lits = eY
 dG : z.dG = kz
def Ss (d : Nat) : Nat → List Int → List Int
 | 0, l => l
 | k + 1, l => Ss d k (l ++ [l.getD (l.length - d) 0])
def hI (n d : Int) : List Int := wb eY (254 + n) ++ wb kz (d - 1)
end
def H4 (d : Int) : List Int → List Int
 | [] => []
 | m :: l => hI (3 + m % 8) d ++ H4 d l
def To (d : Int) : List Int → List Int → List Int
 | [], out => out
 | m :: l, out => To d l (Ss d.toNat (3 + m % 8).toNat out)
def Zo (head : List Int) (d : Int) (l : List Int) : List Int := kR 3 3 ++ ae.bits eY head ++ H4 d l
end Go.ab
namespace Go.ab
open Go.ag Go.ae
theorem gW {l : List Int} {i : Nat} (h : i < l.length) : l.take (i + 1) = l.take i ++ [l.getD i 0] := by
 rw [List.take_succ_eq_append_getElem h]
 simp [List.getD_eq_getElem?_getD, h]
def ZR (l : List Int) : Prop := ∀ x ∈ l, 0 ≤ x ∧ x ≤ 1
end Go.ab
namespace Go.ab
open Go.ag Go.ae
end Go.ab
namespace Go.aJ
open Go.ag Go.ae Go.ab
def x3 (x y z : Int) : Int := IntKind.u32.wrap ((BitVec.ofInt IntKind.u32.bits (IntKind.u32.wrap ((BitVec.ofInt IntKind.u32.bits (IntKind.u32.wrap (x * 2 ^ (min (16 : Int).toNat IntKind.u32.bits))) ||| BitVec.ofInt IntKind.u32.bits (IntKind.u32.wrap (y * 2 ^ (min (8 : Int).toNat IntKind.u32.bits)))).toNat : Int)) ||| BitVec.ofInt IntKind.u32.bits z).toNat : Int)
def mC (x y z : Int) : Int := (IntKind.u32.wrap (x3 x y z * 2654435761)).fdiv (2 ^ (min (19 : Int).toNat IntKind.u32.bits))
def hs (B : List Int) (a : Nat) : Int := mC (B.getD a 0) (B.getD (a + 1) 0) (B.getD (a + 2) 0)
structure Fd where
 hd : List Int
 nx : List Int
def RD (B : List Int) (f : Fd) (a : Nat) : Fd := if B.length < a + 3 then f else ⟨f.hd.set (hs B a).toNat (a : Int), f.nx.set a (f.hd.getD (hs B a).toNat 0)⟩
def Co (B : List Int) (f : Fd) (a : Nat) : Nat → Fd
 | 0 => f
 | k + 1 => RD B (Co B f a k) (a + k)
def Cp (B : List Int) (old a : Nat) : Nat → Nat → Nat
 | 0, n => n
 | f + 1, n => if a + n < B.length ∧ B.getD (old + n) 0 = B.getD (a + n) 0 then Cp B old a f (n + 1) else n
def Vv (B : List Int) (old a : Nat) : Nat := Cp B old a 258 0
def tp (B nx : List Int) (a : Nat) : Nat → Int → Int → Int → Int × Int
 | 0, _, n, bA => (n, bA)
 | t + 1, old, n, bA => if old = -1 ∨ 32768 < (a : Int) - old then (n, bA) else
  if n < (Vv B old.toNat a : Int) then tp B nx a t (nx.getD old.toNat 0) (Vv B old.toNat a) ((a : Int) - old) else tp B nx a t (nx.getD old.toNat 0) n bA
def rh (B : List Int) (f : Fd) (a : Nat) : Int × Int := if B.length < a + 3 then (0, 0) else tp B f.nx a 24 (f.hd.getD (hs B a).toNat 0) 0 0
structure cU where
 lit : Int
 n : Int
 bA : Int
def wC (B : List Int) : Nat → Fd → Nat → List cU
 | 0, _, _ => []
 | q + 1, f, a => if a < B.length then
   (if (rh B f a).1 < 3 then ⟨B.getD a 0, 0, 0⟩ :: wC B q (Co B f a 1) (a + 1)
    else ⟨0, (rh B f a).1, (rh B f a).2⟩ :: wC B q (Co B f a (rh B f a).1.toNat) (a + (rh B f a).1.toNat)) else []
def X9 (B : List Int) : Fd := ⟨List.replicate 8192 (-1), List.replicate B.length 0⟩
def uS (B : List Int) : List cU := wC B B.length (X9 B) 0
structure Alk (B : List Int) (old a n : Nat) : Prop where
 le : n ≤ 258
 room : a + n ≤ B.length ∨ n = 0
 same : ∀ i, i < n → B.getD (old + i) 0 = B.getD (a + i) 0
structure Fok (B : List Int) (n : Nat) (f : Fd) : Prop where
 hl : f.hd.length = 8192
 nl : f.nx.length = B.length
 h : ∀ i, i < 8192 → -1 ≤ f.hd.getD i 0 ∧ f.hd.getD i 0 < n
 x : ∀ i, i < B.length → -1 ≤ f.nx.getD i 0 ∧ (f.nx.getD i 0 < n ∨ f.nx.getD i 0 = 0)
structure Fs (B : List Int) (a : Nat) (r : Int × Int) : Prop where
 Zg : (r.1 = 0 ∧ r.2 = 0) ∨ (1 ≤ r.1 ∧ r.1 ≤ 258 ∧ 1 ≤ r.2 ∧ r.2 ≤ 32768 ∧ r.2 ≤ a ∧ a + r.1.toNat ≤ B.length ∧ ∀ i, i < r.1.toNat → B.getD (a - r.2.toNat + i) 0 = B.getD (a + i) 0)
def Yq : List cU → List Int → List Int
 | [], o => o
 | t :: l, o => Yq l (if t.n = 0 then o ++ [t.lit] else Ss t.bA.toNat t.n.toNat o)
structure uh (t : cU) : Prop where
 Zg : (t.n = 0 ∧ t.bA = 0 ∧ 0 ≤ t.lit ∧ t.lit < 256) ∨ (t.lit = 0 ∧ 3 ≤ t.n ∧ t.n ≤ 258 ∧ 1 ≤ t.bA ∧ t.bA ≤ 32768)
inductive s7 (B : List Int) : Nat → List cU → Prop
 | nil : s7 B B.length []
 | lit {a : Nat} {l : List cU} : a < B.length → s7 B (a + 1) l → s7 B a (⟨B.getD a 0, 0, 0⟩ :: l)
 | cp {a n d : Nat} {l : List cU} : 3 ≤ n → n ≤ 258 → 1 ≤ d → d ≤ 32768 → d ≤ a → a + n ≤ B.length → (∀ i, i < n → B.getD (a - d + i) 0 = B.getD (a + i) 0) → s7 B (a + n) l → s7 B a (⟨0, n, d⟩ :: l)
section
variable {B nx : List Int} {a k o : Nat} {old n bA : Int}
end
end Go.aJ
namespace Go.aJ
open Go.ag Go.ae Go.ab
def BL (lim x : Int) : Nat → Nat → Nat
  | 0, m => m
  | f + 1, m => if lim ≤ x / 2 ^ m then BL lim x f (m + 1) else m
def sM (lim x : Int) : Nat := BL lim x 16 0
def uC (n : Int) : Int := if n - 3 = 255 then 285 else if n - 3 < 8 then 257 + (n - 3) else 257 + 4 * (sM 8 (n - 3) : Int) + (n - 3) / 2 ^ sM 8 (n - 3)
def Hx (n : Int) : Nat := if n - 3 = 255 then 0 else if n - 3 < 8 then 0 else sM 8 (n - 3)
def HQ (n : Int) : Int := if n - 3 = 255 then 0 else if n - 3 < 8 then 0 else (n - 3) % 2 ^ sM 8 (n - 3)
def uy (f : Int) : Int := if f - 1 < 4 then f - 1 else 2 * (sM 4 (f - 1) : Int) + (f - 1) / 2 ^ sM 4 (f - 1)
def G2 (f : Int) : Nat := if f - 1 < 4 then 0 else sM 4 (f - 1)
def GH (f : Int) : Int := if f - 1 < 4 then 0 else (f - 1) % 2 ^ sM 4 (f - 1)
structure Mr (lim x : Int) (m : Nat) : Prop where
  lt : x / 2 ^ m < lim
  ge : m = 0 ∨ lim ≤ x / 2 ^ (m - 1)
  le : m ≤ 13
def uq (ls ds : List Int) (t : cU) : List Int := if t.n = 0 then wb ls t.lit else wb ls (uC t.n) ++ kR (HQ t.n) (Hx t.n) ++ wb ds (uy t.bA) ++ kR (GH t.bA) (G2 t.bA)
def ra (ls ds : List Int) (l : List cU) : List Int := l.flatMap (uq ls ds)
structure Fits (ls ds : List Int) (l : List cU) : Prop where
  ok : ∀ t ∈ l, uh t
  lit : ∀ t ∈ l, t.n = 0 → t.lit < ls.length ∧ nm ls t.lit = true
  cp : ∀ t ∈ l, t.n ≠ 0 → uC t.n < ls.length ∧ nm ls (uC t.n) = true ∧ uy t.bA < ds.length ∧ nm ds (uy t.bA) = true
  end_ : (256 : Int) < ls.length ∧ nm ls 256 = true
end Go.aJ
namespace Go.kB
abbrev Pk := Int × List Int
def Wl : List Pk → List Pk
  | a :: b :: l => (a.1 + b.1, a.2 ++ b.2) :: Wl l
  | _ => []
def sy (l : List Pk) (m : Nat) : List Int := (l.take m).flatMap (·.2)
def Nu : List Pk → List Pk → List Pk
  | [], P => P
  | A, [] => A
  | a :: A, b :: P => if a.1 ≤ b.1 then a :: Nu A (b :: P) else b :: Nu (a :: A) P
termination_by A P => A.length + P.length
abbrev o7 (l : List Pk) : Prop := l.Pairwise (fun x y => x.1 ≤ y.1)
structure SS (l l' : List Pk) : Prop where
  Yl : o7 l'
  ZB : ∀ c, l'.filter (fun x => decide (x.1 = c)) = l.filter (fun x => decide (x.1 = c))
end Go.kB
namespace Go.kB
def lv (A : List Pk) : Nat → List Pk
  | 0 => []
  | j + 1 => Nu A (Wl (lv A j))
def sm (A : List Pk) (i : Nat) : Int := (A.getD i (0, [])).2.headD 0
structure Lf (A : List Pk) : Prop where
  Yl : o7 A
  one : ∀ i, i < A.length → (A.getD i (0, [])).2 = [sm A i]
  inj : ∀ i j, i < A.length → j < A.length → sm A i = sm A j → i = j
  pos : ∀ x ∈ A, 0 < x.1
def Hv (A : List Pk) (e : Pk) : Prop := 0 ≤ e.1 ∧ ∀ i, i < A.length → sm A i ∈ e.2 → (A.getD i (0, [])).1 ≤ e.1
def ct (A : List Pk) (j m i : Nat) : Nat := (sy (lv A j) m).count (sm A i)
def YQ (f : Nat → Nat) : Nat → Nat
  | 0 => 0
  | n + 1 => YQ f n + f n
end Go.kB
namespace Go.kB
open Go.ae
def Rn (s : Nat → Int) (v : Nat → Int) (base : List Int) : Nat → List Int
  | 0 => base
  | k + 1 => (Rn s v base k).set (s k).toNat (v k)
def cs (A : List Pk) (bT : Nat) : List Int := (List.range A.length).map (fun i => (ct A bT (2 * A.length - 2) i : Int))
structure Ln (A : List Pk) (bT : Nat) (vs : List Int) : Prop where
  perm : vs.Perm (cs A bT)
  down : vs.Pairwise (fun x y => y ≤ x)
def out (A : List Pk) (vs : List Int) (L : Nat) : List Int := Rn (sm A) (fun i => vs.getD i 0) (List.replicate L 0) A.length
structure Good (A : List Pk) (bT L : Nat) (o : List Int) : Prop where
  len : o.length = L
  leaf : ∀ i, i < A.length → 1 ≤ o.getD (sm A i).toNat 0 ∧ o.getD (sm A i).toNat 0 ≤ bT
  rest : ∀ x, (∀ i, i < A.length → (sm A i).toNat ≠ x) → o.getD x 0 = 0
  down : ∀ i j, i ≤ j → j < A.length → o.getD (sm A j).toNat 0 ≤ o.getD (sm A i).toNat 0
  code : a7 o = 0
end Go.kB
namespace Go.kB
open Go.ae
def N9 (fr : List Int) (k : Nat) : List Pk := ((List.range k).filter (fun i => decide (0 < fr.getD i 0))).map (fun i : Nat => (fr.getD i 0, [(i : Int)]))
def cO (L : Nat) (X : List Int) : List Int := (List.range L).map (fun k : Nat => (X.count (k : Int) : Int))
structure Th (fr : List Int) (bT : Nat) (o : List Int) : Prop where
 len : o.length = fr.length
 code : a7 o = 0
 pos : ∀ i, i < fr.length → 0 < fr.getD i 0 → 1 ≤ o.getD i 0 ∧ o.getD i 0 ≤ bT
 zero : ∀ i, i < fr.length → ¬ 0 < fr.getD i 0 → o.getD i 0 = 0
 one : (N9 fr fr.length).length = 1 → ∀ i, o.getD i 0 ≤ 1
 down : ∀ i k, i < fr.length → k < fr.length → fr.getD k 0 < fr.getD i 0 → 0 < fr.getD k 0 → o.getD i 0 ≤ o.getD k 0
end Go.kB
namespace Go.kB
open Go.ae
def P9 (x : Pk) : List Pk → List Pk
  | [] => [x]
  | y :: ys => if x.1 ≤ y.1 then x :: y :: ys else y :: P9 x ys
def FX : List Pk → List Pk
  | [] => []
  | x :: xs => P9 x (FX xs)
def uL (fr : List Int) (bT : Nat) : List Int :=
  match N9 fr fr.length with
  | [] => List.replicate fr.length 0
  | [x] => (List.replicate fr.length 0).set (x.2.headD 0).toNat 1
  | l => out (FX l) ((cs (FX l) bT).mergeSort fun x y => decide (x ≤ y)).reverse fr.length
structure Zl (fr : List Int) (bT : Nat) (o : List Int) : Prop extends Th fr bT o where
  Fu : o = uL fr bT
end Go.kB
namespace Go.aJ
open Go.ag Go.ae Go.ab
def Jj (fr : List Int) : Nat → Int
  | 0 => 0
  | k + 1 => if Jj fr k < fr.getD k 0 then fr.getD k 0 else Jj fr k
def ON (x : Int) : Nat → Nat → Nat
  | 0, m => m
  | f + 1, m => if 1048576 < x / 2 ^ m then ON x f (m + 1) else m
def dn (fr : List Int) : Nat := ON (Jj fr fr.length) 16 0
def rr (d : Nat) (x : Int) : Int := if 0 < x then (if 1 < x / 2 ^ d then x / 2 ^ d else 1) else x
def HO (fr : List Int) (d : Nat) : Nat → List Int
  | 0 => fr
  | k + 1 => (HO fr d k).set k (rr d (fr.getD k 0))
def xl (fr : List Int) : List Int := HO fr (dn fr) fr.length
def wJ (l : List Int) (s : Int) : List Int := l.set s.toNat (l.getD s.toNat 0 + 1)
def Xg (t : cU) : Int := if t.n = 0 then t.lit else uC t.n
def yk : List cU → List Int → List Int
  | [], a => a
  | t :: l, a => yk l (wJ a (Xg t))
def GV : List cU → List Int → List Int
  | [], b => b
  | t :: l, b => GV l (if t.n = 0 then b else wJ b (uy t.bA))
def Vy : List Int := (List.replicate 286 0).set 256 1
def Wn : List Int := List.replicate 30 0
def fA (l : List cU) : List Int := xl (yk l Vy)
def fB (l : List cU) : List Int := xl (GV l Wn)
end Go.aJ
namespace Go.aJ
open Go.ag Go.ae Go.ab
def ie : Nat → List Int → List (List Int)
  | 0, Z => [Z]
  | f + 1, Z => if Z.length ≤ 65535 then [Z] else Z.take 65535 :: ie f (Z.drop 65535)
theorem xO : ∀ (f : Nat) (Z : List Int), ∃ X L, ie f Z = X :: L
  | 0, Z => ⟨Z, [], rfl⟩
  | f + 1, Z => by
    unfold ie
    split
    · exact ⟨_, _, rfl⟩
    · exact ⟨_, _, rfl⟩
theorem sr {Z : List Int} (h : Z.length ≤ 65535) : ∀ f, ie f Z = [Z]
  | 0 => rfl
  | f + 1 => if_pos h
theorem r6 {Z : List Int} (h : 65535 < Z.length) (f : Nat) : eQ (ie (f + 1) Z) = eZ 0 (Z.take 65535) ++ eQ (ie f (Z.drop 65535)) := by
  have h0 : ie (f + 1) Z = Z.take 65535 :: ie f (Z.drop 65535) := if_neg (by omega)
  rw [h0]
  obtain ⟨X, L, e⟩ := xO f (Z.drop 65535)
  rw [e]; rfl
theorem sd : ∀ (f : Nat) (Z : List Int), (ie f Z).flatten = Z
  | 0, Z => by simp [ie]
  | f + 1, Z => by
    unfold ie
    split
    · simp
    · rw [List.flatten_cons, sd f, List.take_append_drop]
theorem pA : ∀ (f : Nat) (Z : List Int), Z.length ≤ 65535 * (f + 1) → ∀ X ∈ ie f Z, X.length ≤ 65535
  | 0, Z, h, X, hX => by simp only [ie, List.mem_singleton] at hX; subst hX; omega
  | f + 1, Z, h, X, hX => by
    unfold ie at hX
    split at hX
    · rw [List.mem_singleton.1 hX]; assumption
    · rcases List.mem_cons.1 hX with rfl | hX
      · rw [List.length_take]; omega
      · exact pA f _ (by rw [List.length_drop]; omega) X hX
theorem Mc : ∀ (f : Nat) (Z : List Int), Z.length ≤ 65535 * (f + 1) → (eQ (ie f Z)).length ≤ Z.length + 5 * (Z.length / 65535 + 1)
  | 0, Z, h => by show (eZ 1 Z).length ≤ _; rw [kb]; omega
  | f + 1, Z, h => by
    rcases Nat.lt_or_ge 65535 Z.length with h1 | h1
    · have ih := Mc f (Z.drop 65535) (by rw [List.length_drop]; omega)
      rw [r6 h1, List.length_append, kb, List.length_take]
      rw [List.length_drop] at ih
      omega
    · rw [sr h1]; show (eZ 1 Z).length ≤ _; rw [kb]; omega
theorem yR : ∀ (f : Nat) (Z : List Int), Z.length ≤ 65535 * (f + 1) → (eQ (ie f Z)).length = Z.length + 5 * ((Z.length - 1) / 65535 + 1)
  | 0, Z, h => by show (eZ 1 Z).length = _; rw [kb]; omega
  | f + 1, Z, h => by
    rcases Nat.lt_or_ge 65535 Z.length with h1 | h1
    · have ih := yR f (Z.drop 65535) (by rw [List.length_drop]; omega)
      rw [r6 h1, List.length_append, kb, List.length_take]
      rw [List.length_drop] at ih
      omega
    · rw [sr h1]; show (eZ 1 Z).length = _; rw [kb]; omega
def gJ (B : List Int) : List Int := eQ (ie 64 B)
theorem M5 (B : List Int) : [] ++ eQ (ie 64 B) = gJ B := rfl
theorem GW {O Z B : List Int} {f : Nat} (h : O ++ eQ (ie f Z) = gJ B) (hZ : Z.length ≤ 65535) : O ++ [1, (Z.length : Int) % 256, (Z.length : Int) / 256, 255 - (Z.length : Int) % 256, 255 - (Z.length : Int) / 256] ++ Z = gJ B := by
  rw [← h, sr hZ, List.append_assoc]; rfl
theorem GK {O Z B : List Int} {f : Nat} (h : O ++ eQ (ie (f + 1) Z) = gJ B) (hZ : 65535 < Z.length) : O ++ [0, (65535 : Int) % 256, (65535 : Int) / 256, 255 - (65535 : Int) % 256, 255 - (65535 : Int) / 256] ++ Z.take 65535 ++ eQ (ie f (Z.drop 65535)) = gJ B := by
  rw [← h, r6 hZ]
  have : (Z.take 65535).length = 65535 := by rw [List.length_take]; omega
  unfold eZ
  rw [this]
  simp only [List.append_assoc]
  rfl
theorem uR {B : List Int} (h : B.length ≤ 4194304) : (gJ B).length = B.length + 5 * ((B.length - 1) / 65535 + 1) := yR 64 B (by omega)
theorem Ma {B t : List Int} (h : B.length ≤ 4194304) (hB : an B) (ht : an t) : iU (gJ B ++ t) B.length (B, ((gJ B).length : Int), 0) ∧ ∀ mo : Int, 0 ≤ mo → mo < B.length → iU (gJ B ++ t) mo ([], 0, 6) := by
  obtain ⟨X, L, e⟩ := xO 64 B
  have h1 := Hs (L := ie 64 B) (by rw [e]; simp) (fun X hX => ⟨pA 64 B (by omega) X hX, fun x hx => hB x (by
    have := sd 64 B
    rw [← this]; exact List.mem_flatten.2 ⟨X, hX, hx⟩)⟩) ht
  rw [sd] at h1
  exact h1
end Go.aJ
namespace Go.kB
open Go.ae
end Go.kB
namespace Go.aJ
open Go.ag Go.ae Go.ab
def nB (bs : List Int) (a : Nat) : Nat → Int
  | 0 => 0
  | n + 1 => nB bs a n + bs.getD (a + n) 0 * 2 ^ n
def A8 (bs : List Int) : List Int := (List.range ((bs.length + 7) / 8)).map fun j => nB bs (8 * j) 8
def Y5 (l : List cU) : List Int := kR 1 1 ++ kR 1 2 ++ (ra eY kz l ++ wb eY 256)
def Sq (l : List cU) : List Int := A8 (Y5 l)
def dA (l : List cU) : List Int := kB.uL (fA l) 15
def dB (l : List cU) : List Int := kB.uL (fB l) 15
def Hz : List Int → List Int → List Int
  | [], f => f
  | n :: l, f => Hz l (wJ f n)
def GF (l : List cU) : List Int := dA l ++ dB l
def U4 : List Int := List.replicate 19 0
def VS (l : List cU) : List Int := Hz (GF l) U4
def dF (l : List cU) : List Int := kB.uL (VS l) 7
def cD (f : List Int) (k : Nat) : List Int := (ly.take k).flatMap fun i => kR (f.getD i.toNat 0) 3
def VX : List Int := kR 1 1 ++ kR 2 2 ++ kR 29 5 ++ kR 29 5 ++ kR 15 4
def YA (l : List cU) : List Int := VX ++ cD (dF l) 19 ++ ae.bits (dF l) (GF l) ++ (ra (dA l) (dB l) l ++ wb (dA l) 256)
def R9 (l : List cU) : List Int := A8 (YA l)
end Go.aJ
namespace Go.aJ
open Go.ag Go.ae Go.ab
def UG {α : Type} (a b c : α) : Nat → α
  | 0 => a
  | 1 => b
  | _ => c
def bi (n : Nat → Nat) : Nat → Nat
  | 0 => 0
  | k + 1 => if n (k + 1) < n (bi n k) then k + 1 else bi n k
def sN (B : List Int) : Nat → Nat := UG (gJ B).length (Sq (uS B)).length (R9 (uS B)).length
def m8 (B : List Int) : List Int := UG (gJ B) (Sq (uS B)) (R9 (uS B)) (bi (sN B) 2)
end Go.aJ
namespace Go.aJ
open Go.ag Go.ae Go.ab
end Go.aJ
namespace Go.aJ
open Go.ag Go.ae Go.ab
def C4 (n : Int) : Int := if n < 0 then 0 else n
def bT (n : Int) : Int := if 0 < C4 n % 65535 then C4 n + 5 * (C4 n / 65535 + 1) + 5 else C4 n + 5 * (C4 n / 65535) + 5
end Go.aJ
namespace Go.aJ
open Go.ag Go.ae Go.ab
structure Rq (ls ds o : List Int) (mo : Int) (z : St) (a : Nat) (out : List Int) : Prop where
  BC : gy o mo ab.start z
  at_ : z.at_ = a
  out : z.out = out
  k1 : ¬ z.kind = -1
  k2 : ¬ z.kind = 0
  ax : z.ax = 0
  ended : z.ended = false
  last : z.last = true
  lits : z.lits = ls
  dG : z.dG = ds
section
variable {ls ds bs o u r out : List Int} {mo y : Int} {z : St} {t : cU}
end
end Go.aJ
namespace Go.aJ
open Go.ag Go.ae Go.ab
end Go.aJ
namespace Go.aJ
open Go.ag Go.ae Go.ab
section
variable {B : List Int} {b : Int}
def Cst (B : List Int) (b : Int) : Prop := ∀ i, i < B.length → B.getD i 0 = b
end
end Go.aJ
namespace Go.aJ
open Go.ag Go.ae Go.ab
def nxR (x : Int) : Int := IntKind.u32.wrap (IntKind.u32.wrap (x * 1664525) + 1013904223)
def ZV (x : Int) : Int := IntKind.u8.wrap (x.fdiv (2 ^ (min (24 : Int).toNat IntKind.u32.bits)))
structure Gd (B : List Int) : Prop where
  zb : (m8 B).length ≤ 30000000
  pS : an (m8 B)
  res : iU (m8 B) (B.length : Int) (B, ((m8 B).length : Int), 0)
  bT : ((m8 B).length : Int) ≤ (B.length : Int) + 5 * (((B.length : Int) + 65534) / 65535) + 5
theorem an.snoc {l : List Int} {y : Int} (h : an l) (hy : 0 ≤ y ∧ y < 256) : an (l ++ [y]) := fun x hx => by
  rcases List.mem_append.1 hx with hx | hx
  · exact h x hx
  · rw [List.mem_singleton.1 hx]; exact hy
end Go.aJ
namespace Go.aJ
open Go.ag
theorem an.app {a b : List Int} (h : an a) (k : an b) : an (a ++ b) := fun x hx => by
  rcases List.mem_append.1 hx with hx | hx
  · exact h x hx
  · exact k x hx
end Go.aJ
namespace Go.aJ
open Go.ag Go.ab
theorem ir : an [] := fun x hx => by cases hx
end Go.aJ
namespace Go.aJ
end Go.aJ
namespace Go.aH
open Go.ag Go.ab
theorem sa {x : Int} (h : 0 ≤ x ∧ x < 256) : ∃ k : Fin 256, x = ((k.val : Nat) : Int) := ⟨⟨x.toNat, by omega⟩, by simp only; omega⟩
theorem Fy : ∀ k : Fin 256, IntKind.i64.wrap ((BitVec.ofInt IntKind.i64.bits ((k.val : Nat) : Int) &&& BitVec.ofInt IntKind.i64.bits 15).toNat : Int) = ((k.val : Nat) : Int) % 16 := by decide +kernel
theorem Ek : ∀ k : Fin 256, IntKind.i64.wrap ((BitVec.ofInt IntKind.i64.bits ((k.val : Nat) : Int) &&& BitVec.ofInt IntKind.i64.bits 32).toNat : Int) = 32 * (((k.val : Nat) : Int) / 32 % 2) := by decide +kernel
theorem S0 {x : Int} (h : 0 ≤ x ∧ x < 256) : IntKind.i64.wrap ((BitVec.ofInt IntKind.i64.bits x &&& BitVec.ofInt IntKind.i64.bits 15).toNat : Int) = x % 16 := by obtain ⟨k, rfl⟩ := sa h; exact Fy k
theorem Ct {x : Int} (h : 0 ≤ x ∧ x < 256) : IntKind.i64.wrap ((BitVec.ofInt IntKind.i64.bits x &&& BitVec.ofInt IntKind.i64.bits 32).toNat : Int) = 32 * (x / 32 % 2) := by obtain ⟨k, rfl⟩ := sa h; exact Ek k
theorem Zb {x : Int} (h : 0 ≤ x) : x.fdiv (2 ^ (min (4 : Int).toNat IntKind.i64.bits)) = x / 16 := by rw [Int.fdiv_eq_ediv_of_nonneg _ (by decide)]; rfl
theorem Du {a b n : Nat} (hb : b < 2 ^ n) : (a * 2 ^ n) ||| b = a * 2 ^ n + b := by
  have := Nat.shiftLeft_add_eq_or_of_lt hb a
  rw [Nat.shiftLeft_eq] at this
  exact this.symm
theorem wrap32 {n : Int} (h1 : 0 ≤ n) (h2 : n < 4294967296) : IntKind.u32.wrap n = n := by
  have e : IntKind.u32.wrap n = n % 4294967296 := rfl
  rw [e]; omega
theorem wrap64 {n : Int} (h1 : 0 ≤ n) (h2 : n < 4294967296) : IntKind.i64.wrap n = n := Go.Sl.gl (by omega) (by omega)
theorem W9 {x y u : Int} {n : Nat} (hx : x = u * 2 ^ n) (hu : 0 ≤ u) (hy : 0 ≤ y ∧ y < 2 ^ n) (h : x + y < 4294967296) : IntKind.u32.wrap ((BitVec.ofInt IntKind.u32.bits x ||| BitVec.ofInt IntKind.u32.bits y).toNat : Int) = x + y := by
  obtain ⟨a, rfl⟩ : ∃ a : Nat, u = (a : Int) := ⟨u.toNat, by omega⟩
  obtain ⟨b, rfl⟩ : ∃ b : Nat, y = (b : Int) := ⟨y.toNat, by omega⟩
  have e : IntKind.u32.bits = 32 := rfl
  have hb : b < 2 ^ n := by have := hy.2; exact_mod_cast this
  have hx2 : x = ((a * 2 ^ n : Nat) : Int) := by rw [hx]; push_cast; rfl
  subst hx2
  rw [e, BitVec.toNat_or, du, du, Nat.mod_eq_of_lt (by omega), Nat.mod_eq_of_lt (by omega), Du hb, wrap32 (by omega) (by omega)]
  omega
theorem uz {x y u : Int} {n : Nat} (hx : x = u * 2 ^ n) (hu : 0 ≤ u) (hy : 0 ≤ y ∧ y < 2 ^ n) (h : x + y < 4294967296) : IntKind.i64.wrap ((BitVec.ofInt IntKind.i64.bits x ||| BitVec.ofInt IntKind.i64.bits y).toNat : Int) = x + y := by
  obtain ⟨a, rfl⟩ : ∃ a : Nat, u = (a : Int) := ⟨u.toNat, by omega⟩
  obtain ⟨b, rfl⟩ : ∃ b : Nat, y = (b : Int) := ⟨y.toNat, by omega⟩
  have e : IntKind.i64.bits = 64 := rfl
  have hb : b < 2 ^ n := by have := hy.2; exact_mod_cast this
  have hx2 : x = ((a * 2 ^ n : Nat) : Int) := by rw [hx]; push_cast; rfl
  subst hx2
  rw [e, BitVec.toNat_or, du, du, Nat.mod_eq_of_lt (by omega), Nat.mod_eq_of_lt (by omega), Du hb, wrap64 (by omega) (by omega)]
  omega
theorem Gz {x r : Int} {n : Nat} {d : Int} (hd : d = (n : Int)) (hn : n ≤ 32) (hr : r = x * 2 ^ n) (h0 : 0 ≤ r) (h1 : r < 4294967296) : IntKind.i64.wrap (x * 2 ^ (min d.toNat IntKind.i64.bits)) = r := by
  have e : min d.toNat IntKind.i64.bits = n := by
    have : IntKind.i64.bits = 64 := rfl
    omega
  rw [e, ← hr]; exact wrap64 h0 h1
theorem Xl {x r : Int} {n : Nat} {d : Int} (hd : d = (n : Int)) (hn : n ≤ 32) (hr : r = x * 2 ^ n) (h0 : 0 ≤ r) (h1 : r < 4294967296) : IntKind.u32.wrap (x * 2 ^ (min d.toNat IntKind.u32.bits)) = r := by
  have e : min d.toNat IntKind.u32.bits = n := by
    have : IntKind.u32.bits = 32 := rfl
    omega
  rw [e, ← hr]; exact wrap32 h0 h1
theorem BU {x : Int} {n : Nat} {d : Int} (hd : d = (n : Int)) (hn : n ≤ 32) : x.fdiv (2 ^ (min d.toNat IntKind.u32.bits)) = x / 2 ^ n := by
  have e : min d.toNat IntKind.u32.bits = n := by
    have : IntKind.u32.bits = 32 := rfl
    omega
  rw [e, Int.fdiv_eq_ediv_of_nonneg _ (Int.le_of_lt (Int.pow_pos (by decide)))]
def oM (s : Int × Int) (c : Int) : Int × Int := ((s.1 + c) % 65521, (s.2 + (s.1 + c) % 65521) % 65521)
def eR (l : List Int) : Int × Int := l.foldl oM (1, 0)
theorem qE : eR [] = (1, 0) := rfl
theorem Gy (l : List Int) (c : Int) : eR (l ++ [c]) = oM (eR l) c := by simp [eR]
theorem oG {l : List Int} {i : Nat} (h : i < l.length) : eR (l.take (i + 1)) = oM (eR (l.take i)) (l.getD i 0) := by rw [ab.gW h, Gy]
theorem OI (s : Int × Int) (c : Int) : (0 ≤ (oM s c).1 ∧ (oM s c).1 < 65521) ∧ 0 ≤ (oM s c).2 ∧ (oM s c).2 < 65521 := by unfold oM; simp only; omega
theorem KN (l : List Int) : ∀ s : Int × Int, ((0 ≤ s.1 ∧ s.1 < 65521) ∧ 0 ≤ s.2 ∧ s.2 < 65521) → (0 ≤ (l.foldl oM s).1 ∧ (l.foldl oM s).1 < 65521) ∧ 0 ≤ (l.foldl oM s).2 ∧ (l.foldl oM s).2 < 65521 := by
  induction l with
  | nil => exact fun s h => h
  | cons a l ih => exact fun s h => ih _ (OI s a)
theorem pR (l : List Int) : (0 ≤ (eR l).1 ∧ (eR l).1 < 65521) ∧ 0 ≤ (eR l).2 ∧ (eR l).2 < 65521 := KN l _ (by decide)
def ff (l : List Int) : Int := (eR l).2 * 65536 + (eR l).1
theorem yn (l : List Int) : 0 ≤ ff l ∧ ff l < 4294967296 := by have := pR l; unfold ff; omega
def jS (l : List Int) : List Int := [ff l / 16777216, ff l / 65536 % 256, ff l / 256 % 256, ff l % 256]
theorem uB (l : List Int) : (jS l).length = 4 := rfl
theorem rm (l : List Int) : an (jS l) := fun x hx => by
  have := yn l
  simp only [jS, List.mem_cons, List.not_mem_nil, or_false] at hx
  rcases hx with rfl | rfl | rfl | rfl <;> omega
def cR (l : List Int) : Int := l.getD 0 0 * 16777216 + l.getD 1 0 * 65536 + l.getD 2 0 * 256 + l.getD 3 0
def Hd (a b : Int) : Prop := a % 16 = 8 ∧ a / 16 ≤ 7 ∧ (a * 256 + b) % 31 = 0 ∧ 32 * (b / 32 % 2) = 0
instance (a b : Int) : Decidable (Hd a b) := by unfold Hd; infer_instance
theorem Ub (a b : Int) : ¬ a % 16 = 8 ∨ (a % 16 = 8 ∧ ¬ a / 16 ≤ 7) ∨ (a % 16 = 8 ∧ a / 16 ≤ 7 ∧ ¬ (a * 256 + b) % 31 = 0) ∨ (a % 16 = 8 ∧ a / 16 ≤ 7 ∧ (a * 256 + b) % 31 = 0 ∧ ¬ 32 * (b / 32 % 2) = 0) ∨ (a % 16 = 8 ∧ a / 16 ≤ 7 ∧ (a * 256 + b) % 31 = 0 ∧ 32 * (b / 32 % 2) = 0) := by omega
def fin (D : List Int) (r : List Int × Int × Int) : List Int × Int :=
  if ¬ r.2.2 = 0 then ([], r.2.2) else if D.length - r.2.1.toNat < 4 then ([], 2) else if 4 < D.length - r.2.1.toNat then ([], 4) else if D.drop r.2.1.toNat = jS r.1 then (r.1, 0) else ([], 5)
def mv (B : List Int) (mo : Int) (q : List Int × Int) : Prop :=
  (B.length < 6 ∧ q = ([], 2)) ∨ (6 ≤ B.length ∧ ¬ Hd (B.getD 0 0) (B.getD 1 0) ∧ q = ([], 4)) ∨ (6 ≤ B.length ∧ Hd (B.getD 0 0) (B.getD 1 0) ∧ ∃ r, iU (B.drop 2) mo r ∧ q = fin (B.drop 2) r)
theorem dT {B : List Int} (h : an B) (n : Nat) : an (B.drop n) := fun x hx => h x (List.mem_of_mem_drop hx)
theorem Ob {B : List Int} {mo : Int} (hB : an B) {q : List Int × Int × Int} (h : iU B mo q) : an q.1 ∧ 0 ≤ q.2.1 ∧ q.2.1 ≤ B.length ∧ (q.1 = [] ∨ (q.1.length : Int) ≤ mo) := by
  rcases h with ⟨_, rfl⟩ | ⟨h0, o, ho, rfl⟩
  · exact ⟨fun x hx => by (cases hx), by decide, by simp, .inl rfl⟩
  · cases o with
    | error e => exact ⟨fun x hx => by (cases hx), by simp [Ou], by simp [Ou], .inl rfl⟩
    | ok p =>
      obtain ⟨x, n⟩ := p
      obtain ⟨h1, h2, h3⟩ := D6 hB ho (nW (by omega)) x n rfl
      exact ⟨h3, by simp [Ou], by simp only [Ou]; omega, .inr h1⟩
end Go.aH
namespace Go.aH
open Go.ag Go.ab Go.aJ
theorem mv.ways {B : List Int} {mo : Int} {q : List Int × Int} (hB : an B) (hm : mo < 500000000) (h : mv B mo q) :
    (B.length < 6 ∧ q = ([], 2)) ∨ (6 ≤ B.length ∧ ¬ Hd (B.getD 0 0) (B.getD 1 0) ∧ q = ([], 4)) ∨
    (∃ e, 6 ≤ B.length ∧ Hd (B.getD 0 0) (B.getD 1 0) ∧ iU (B.drop 2) mo ([], ((0 : Nat) : Int), e) ∧ ¬ e = 0 ∧ q = ([], e)) ∨
    (∃ (x : List Int) (n : Nat), 6 ≤ B.length ∧ Hd (B.getD 0 0) (B.getD 1 0) ∧ iU (B.drop 2) mo (x, (n : Int), 0) ∧ an x ∧ x.length < 500000000 ∧ n ≤ B.length - 2 ∧ B.length - (2 + n) < 4 ∧ q = ([], 2)) ∨
    (∃ (x : List Int) (n : Nat), 6 ≤ B.length ∧ Hd (B.getD 0 0) (B.getD 1 0) ∧ iU (B.drop 2) mo (x, (n : Int), 0) ∧ an x ∧ x.length < 500000000 ∧ n ≤ B.length - 2 ∧ 4 < B.length - (2 + n) ∧ q = ([], 4)) ∨
    (∃ (x : List Int) (n : Nat), 6 ≤ B.length ∧ Hd (B.getD 0 0) (B.getD 1 0) ∧ iU (B.drop 2) mo (x, (n : Int), 0) ∧ an x ∧ x.length < 500000000 ∧ n ≤ B.length - 2 ∧ B.length - (2 + n) = 4 ∧ ¬ B.drop (2 + n) = jS x ∧ q = ([], 5)) ∨
    (∃ (x : List Int) (n : Nat), 6 ≤ B.length ∧ Hd (B.getD 0 0) (B.getD 1 0) ∧ iU (B.drop 2) mo (x, (n : Int), 0) ∧ an x ∧ x.length < 500000000 ∧ n ≤ B.length - 2 ∧ B.length - (2 + n) = 4 ∧ B.drop (2 + n) = jS x ∧ q = (x, 0)) := by
  rcases h with h | h | ⟨h6, hh, ⟨x, n, e⟩, hr, hq⟩
  · exact .inl h
  · exact .inr (.inl h)
  · obtain ⟨i1, i2, i3, i4⟩ := Ob (dT hB 2) hr
    simp only [List.length_drop] at i1 i2 i3 i4
    have hxl : x.length < 500000000 := by
      rcases i4 with h | h
      · rw [h]; decide
      · omega
    have hez : ¬ e = 0 → x = [] ∧ n = 0 := fun he => by
      rcases hr with ⟨_, h⟩ | ⟨_, o, _, h⟩
      · cases h; exact ⟨rfl, rfl⟩
      · cases o
        · cases h; exact ⟨rfl, rfl⟩
        · cases h; exact absurd rfl he
    obtain ⟨k, rfl⟩ : ∃ k : Nat, n = (k : Int) := ⟨n.toNat, by omega⟩
    unfold fin at hq
    simp only [List.length_drop, List.drop_drop, Int.toNat_natCast] at hq
    split at hq
    · rename_i h1
      obtain ⟨rfl, h2⟩ := hez h1
      obtain rfl : k = 0 := by omega
      exact .inr (.inr (.inl ⟨_, h6, hh, hr, h1, hq⟩))
    · rename_i h1
      obtain rfl : e = 0 := by omega
      split at hq
      · rename_i h2; exact .inr (.inr (.inr (.inl ⟨_, _, h6, hh, hr, i1, hxl, by omega, by omega, hq⟩)))
      · split at hq
        · rename_i h2 h3; exact .inr (.inr (.inr (.inr (.inl ⟨_, _, h6, hh, hr, i1, hxl, by omega, by omega, hq⟩))))
        · split at hq
          · rename_i h2 h3 h4; exact .inr (.inr (.inr (.inr (.inr (.inr ⟨_, _, h6, hh, hr, i1, hxl, by omega, by omega, h4, hq⟩)))))
          · rename_i h2 h3 h4; exact .inr (.inr (.inr (.inr (.inr (.inl ⟨_, _, h6, hh, hr, i1, hxl, by omega, by omega, h4, hq⟩)))))
theorem mv.XP {B : List Int} {mo : Int} {q : List Int × Int} (hB : an B) (hm : mo < 500000000) (h : mv B mo q) :
    (B.length < 6 ∧ q = ([], 2)) ∨ (6 ≤ B.length ∧ ¬ Hd (B.getD 0 0) (B.getD 1 0) ∧ q = ([], 4)) ∨
    (∃ (x : List Int) (n : Nat) (e : Int), 6 ≤ B.length ∧ Hd (B.getD 0 0) (B.getD 1 0) ∧ iU (B.drop 2) mo (x, (n : Int), e) ∧ an x ∧ x.length < 500000000 ∧ n ≤ B.length - 2 ∧
      ((¬ e = 0 ∧ q = ([], e)) ∨ (e = 0 ∧ B.length - (2 + n) < 4 ∧ q = ([], 2)) ∨ (e = 0 ∧ 4 < B.length - (2 + n) ∧ q = ([], 4)) ∨ (e = 0 ∧ B.length - (2 + n) = 4 ∧ ¬ B.drop (2 + n) = jS x ∧ q = ([], 5)) ∨ (e = 0 ∧ B.length - (2 + n) = 4 ∧ B.drop (2 + n) = jS x ∧ q = (x, 0)))) := by
  rcases h.ways hB hm with h | h | ⟨e, a, b, c, d, r⟩ | ⟨x, n, a, b, c, d, f, g, r⟩ | ⟨x, n, a, b, c, d, f, g, r⟩ | ⟨x, n, a, b, c, d, f, g, r⟩ | ⟨x, n, a, b, c, d, f, g, r⟩
  · exact .inl h
  · exact .inr (.inl h)
  · exact .inr (.inr ⟨[], 0, e, a, b, c, fun x hx => (by cases hx), by decide, by omega, .inl ⟨d, r⟩⟩)
  · exact .inr (.inr ⟨x, n, 0, a, b, c, d, f, g, .inr (.inl ⟨rfl, r⟩)⟩)
  · exact .inr (.inr ⟨x, n, 0, a, b, c, d, f, g, .inr (.inr (.inl ⟨rfl, r⟩))⟩)
  · exact .inr (.inr ⟨x, n, 0, a, b, c, d, f, g, .inr (.inr (.inr (.inl ⟨rfl, r⟩)))⟩)
  · exact .inr (.inr ⟨x, n, 0, a, b, c, d, f, g, .inr (.inr (.inr (.inr ⟨rfl, r⟩)))⟩)
theorem bu {l : List Int} (h : an l) : ∀ x ∈ l, 0 ≤ x ∧ x < 256 := h
def zS (B : List Int) : List Int := [120, 1] ++ m8 B ++ jS B
theorem od {a : Int} {l : List Int} (h : 0 ≤ a ∧ a < 256) (k : an l) : an (a :: l) := fun x hx => by
  rcases List.mem_cons.1 hx with rfl | hx
  · exact h
  · exact k x hx
theorem TU : Hd 120 1 := by unfold Hd; decide
end Go.aH
namespace Go.aa
open Go.ag
def dp (a b : Int) : Int := ((a.toNat ^^^ b.toNat : Nat) : Int)
theorem pN {a b : Int} {n : Nat} (ha : 0 ≤ a ∧ a < 2 ^ n) (hb : 0 ≤ b ∧ b < 2 ^ n) : 0 ≤ dp a b ∧ dp a b < 2 ^ n := by
  have h1 : a.toNat < 2 ^ n := by have : ((a.toNat : Nat) : Int) < ((2 ^ n : Nat) : Int) := by push_cast; omega
                                  omega
  have h2 : b.toNat < 2 ^ n := by have : ((b.toNat : Nat) : Int) < ((2 ^ n : Nat) : Int) := by push_cast; omega
                                  omega
  have h := Nat.xor_lt_two_pow h1 h2
  refine ⟨Int.natCast_nonneg _, ?_⟩
  have : ((a.toNat ^^^ b.toNat : Nat) : Int) < ((2 ^ n : Nat) : Int) := by omega
  simpa [dp] using this
theorem wA {a b : Int} (ha : 0 ≤ a ∧ a < 4294967296) (hb : 0 ≤ b ∧ b < 4294967296) : IntKind.u32.wrap ((BitVec.ofInt IntKind.u32.bits a ^^^ BitVec.ofInt IntKind.u32.bits b).toNat : Int) = dp a b := by
  obtain ⟨x, rfl⟩ : ∃ x : Nat, a = (x : Int) := ⟨a.toNat, by omega⟩
  obtain ⟨y, rfl⟩ : ∃ y : Nat, b = (y : Int) := ⟨b.toNat, by omega⟩
  have e : IntKind.u32.bits = 32 := rfl
  have h := pN (n := 32) ha hb
  rw [e, BitVec.toNat_xor, du, du, Nat.mod_eq_of_lt (by omega), Nat.mod_eq_of_lt (by omega)]
  simp only [dp, Int.toNat_natCast] at h ⊢
  exact aH.wrap32 h.1 (by have := h.2; omega)
theorem Xu {a b : Int} (ha : 0 ≤ a ∧ a < 256) (hb : 0 ≤ b ∧ b < 256) : IntKind.u8.wrap ((BitVec.ofInt IntKind.u8.bits a ^^^ BitVec.ofInt IntKind.u8.bits b).toNat : Int) = dp a b := by
  obtain ⟨x, rfl⟩ : ∃ x : Nat, a = (x : Int) := ⟨a.toNat, by omega⟩
  obtain ⟨y, rfl⟩ : ∃ y : Nat, b = (y : Int) := ⟨b.toNat, by omega⟩
  have e : IntKind.u8.bits = 8 := rfl
  have h := pN (n := 8) ha hb
  rw [e, BitVec.toNat_xor, du, du, Nat.mod_eq_of_lt (by omega), Nat.mod_eq_of_lt (by omega)]
  simp only [dp, Int.toNat_natCast] at h ⊢
  exact Sl.wk h.1 (by have := h.2; omega)
theorem Ca {a : Int} (ha : 0 ≤ a ∧ a < 4294967296) : IntKind.u32.wrap ((BitVec.ofInt IntKind.u32.bits 4294967295 ^^^ BitVec.ofInt IntKind.u32.bits a).toNat : Int) = 4294967295 - a := by
  obtain ⟨x, rfl⟩ : ∃ x : Nat, a = (x : Int) := ⟨a.toNat, by omega⟩
  have e : IntKind.u32.bits = 32 := rfl
  have e1 : BitVec.ofInt 32 4294967295 = BitVec.allOnes 32 := by decide
  rw [e, e1, BitVec.xor_comm, BitVec.xor_allOnes, BitVec.toNat_not, du, Nat.mod_eq_of_lt (by omega), aH.wrap32 (by omega) (by omega)]
  omega
def qB (x : Nat) : Nat := if x % 2 = 1 then (x / 2) ^^^ 3988292384 else x / 2
def jQ : Nat → Nat → Nat
  | 0, x => x
  | k + 1, x => qB (jQ k x)
theorem Gg (a b : Nat) : (a ^^^ b) % 2 = (a % 2 + b % 2) % 2 := by
  have h := Nat.testBit_xor a b 0
  simp only [Nat.testBit_zero] at h
  have ha : a % 2 = 0 ∨ a % 2 = 1 := by omega
  have hb : b % 2 = 0 ∨ b % 2 = 1 := by omega
  have hc : (a ^^^ b) % 2 = 0 ∨ (a ^^^ b) % 2 = 1 := by omega
  rcases ha with ha | ha <;> rcases hb with hb | hb <;> rcases hc with hc | hc <;> rw [ha, hb, hc] at h <;> first | omega | (exfalso; revert h; decide)
theorem HJ (a b : Nat) : (a ^^^ b) / 2 = (a / 2) ^^^ (b / 2) := by
  refine Nat.eq_of_testBit_eq fun i => ?_
  simp only [Nat.testBit_div_two, Nat.testBit_xor]
theorem Rm (a b : Nat) : qB (a ^^^ b) = qB a ^^^ qB b := by
  have h2 := Gg a b
  have ha : a % 2 = 0 ∨ a % 2 = 1 := by omega
  have hb : b % 2 = 0 ∨ b % 2 = 1 := by omega
  unfold qB
  rw [HJ]
  rcases ha with ha | ha <;> rcases hb with hb | hb <;> rw [h2, ha, hb]
  · simp
  · simp [Nat.xor_assoc]
  · simp only [Nat.reduceAdd, Nat.reduceMod, if_pos, if_neg, Nat.zero_ne_one, not_false_eq_true]
    rw [Nat.xor_assoc, Nat.xor_comm (b / 2), ← Nat.xor_assoc]
  · simp only [Nat.reduceAdd, Nat.reduceMod, if_pos, Nat.zero_ne_one, if_false]
    rw [Nat.xor_assoc, Nat.xor_comm 3988292384, Nat.xor_assoc, Nat.xor_self, Nat.xor_zero]
theorem RA (k a b : Nat) : jQ k (a ^^^ b) = jQ k a ^^^ jQ k b := by
  induction k with
  | zero => rfl
  | succ k ih => simp only [jQ, ih, Rm]
theorem Kh (a : Nat) : qB (2 * a) = a := by unfold qB; rw [if_neg (by omega)]; omega
theorem UC (h : Nat) : jQ 8 (256 * h) = h := by
  have e : ∀ k m : Nat, jQ k (2 ^ k * m) = m := by
    intro k
    induction k with
    | zero => intro m; simp [jQ]
    | succ k ih => intro m; rw [jQ, Nat.pow_succ, Nat.mul_assoc, ih, Kh]
  exact e 8 h
theorem Ge (s : Nat) : s = (256 * (s / 256)) ^^^ (s % 256) := by
  have h := Nat.two_pow_add_eq_or_of_lt (i := 8) (b := s % 256) (by omega) (s / 256)
  have h2 : (2 ^ 8 * (s / 256)) ^^^ (s % 256) = (2 ^ 8 * (s / 256)) ||| (s % 256) := by
    refine Nat.eq_of_testBit_eq fun i => ?_
    rw [Nat.testBit_xor, Nat.testBit_or]
    rcases Nat.lt_or_ge i 8 with hi | hi
    · rw [Nat.testBit_two_pow_mul, decide_eq_false (by omega)]; simp
    · have : (s % 256).testBit i = false := Nat.testBit_lt_two_pow (Nat.lt_of_lt_of_le (by omega : s % 256 < 2 ^ 8) (Nat.pow_le_pow_right (by decide) hi))
      rw [this]; simp
  have e : 2 ^ 8 * (s / 256) = 256 * (s / 256) := by omega
  rw [e] at h h2
  omega
theorem Dx (s c : Nat) (hc : c < 256) : jQ 8 (s ^^^ c) = jQ 8 ((s % 256) ^^^ c) ^^^ (s / 256) := by
  conv => lhs; rw [Ge s]
  rw [Nat.xor_assoc, RA, UC, Nat.xor_comm]
end Go.aa
namespace Go.aa
open Go.ag
theorem Ti {x : Nat} (h : x < 4294967296) : qB x < 4294967296 := by
  unfold qB
  split
  · exact Nat.xor_lt_two_pow (n := 32) (by omega) (by decide)
  · omega
theorem CE {x : Nat} (h : x < 4294967296) : ∀ k, jQ k x < 4294967296
  | 0 => h
  | k + 1 => Ti (CE h k)
def fG (x : Int) : Int := ((jQ 8 x.toNat : Nat) : Int)
theorem zv {x : Int} (h : 0 ≤ x ∧ x < 4294967296) : 0 ≤ fG x ∧ fG x < 4294967296 := by
  have := CE (x := x.toNat) (by omega) 8
  unfold fG; omega
theorem Fa {s c : Int} (hs : 0 ≤ s) (hc : 0 ≤ c ∧ c < 256) : fG (dp s c) = dp (fG (dp (s % 256) c)) (s / 256) := by
  obtain ⟨a, rfl⟩ : ∃ a : Nat, s = (a : Int) := ⟨s.toNat, by omega⟩
  obtain ⟨b, rfl⟩ : ∃ b : Nat, c = (b : Int) := ⟨c.toNat, by omega⟩
  have e1 : ((a : Int) % 256).toNat = a % 256 := by omega
  have e2 : ((a : Int) / 256).toNat = a / 256 := by omega
  simp only [fG, dp, Int.toNat_natCast, e1, e2]
  rw [Dx a b (by omega)]
def fo (s : Int) (l : List Int) : Int := l.foldl (fun s c => fG (dp s c)) s
theorem nI : ∀ {l : List Int} {s : Int}, an l → 0 ≤ s ∧ s < 4294967296 → 0 ≤ fo s l ∧ fo s l < 4294967296
  | [], s, _, h => h
  | c :: l, s, hl, h => by
    have hc := hl c (by simp)
    exact nI (l := l) (fun x hx => hl x (by simp [hx])) (zv (by have := pN (n := 32) (a := s) (b := c) (by omega) (by omega); omega))
theorem yj {l : List Int} {s : Int} {i : Nat} (h : i < l.length) : fo s (l.take (i + 1)) = fG (dp (fo s (l.take i)) (l.getD i 0)) := by
  rw [ab.gW h]; simp [fo]
def o1 (s : Int) (l : List Int) : Int := 4294967295 - fo (4294967295 - s) l
theorem th {s : Int} {l : List Int} (hs : 0 ≤ s ∧ s < 4294967296) (hl : an l) : 0 ≤ o1 s l ∧ o1 s l < 4294967296 := by
  have := nI (l := l) (s := 4294967295 - s) hl (by omega)
  unfold o1; omega
structure Ch where
  k : List Int
  d : List Int
def gn (k d : List Int) : Int := o1 (o1 0 k) d
def jK (c : Int) : Prop := (97 ≤ c ∧ c ≤ 122) ∨ (65 ≤ c ∧ c ≤ 90)
instance (c : Int) : Decidable (jK c) := by unfold jK; infer_instance
def cZ (k : List Int) : Prop := k.length = 4 ∧ ∀ c ∈ k, jK c
instance (k : List Int) : Decidable (cZ k) := by unfold cZ; infer_instance
def bQ : List Int := [73, 72, 68, 82]
def aS : List Int := [80, 76, 84, 69]
def aY : List Int := [116, 82, 78, 83]
def ba : List Int := [73, 68, 65, 84]
def a8 : List Int := [73, 69, 78, 68]
def ee : List Int := [137, 80, 78, 71, 13, 10, 26, 10]
def first (L : List Int) : Except Int Ch :=
  if L.length < 12 then .error 2
  else if 2147483647 < aH.cR L ∨ ¬ cZ ((L.drop 4).take 4) then .error 4
  else if (L.length : Int) - 12 < aH.cR L then .error 2
  else if aH.cR (L.drop (8 + (aH.cR L).toNat)) = gn ((L.drop 4).take 4) ((L.drop 8).take (aH.cR L).toNat) then .ok ⟨(L.drop 4).take 4, (L.drop 8).take (aH.cR L).toNat⟩
  else .error 5
theorem uU {L : List Int} (h : an L) : 0 ≤ aH.cR L ∧ aH.cR L < 4294967296 := by
  have h0 := h.get 0; have h1 := h.get 1; have h2 := h.get 2; have h3 := h.get 3
  unfold aH.cR; omega
theorem NL {L : List Int} (hL : an L) : (L.length < 12 ∧ first L = .error 2) ∨ ∃ n : Nat, 12 ≤ L.length ∧ aH.cR L = (n : Int) ∧ n < 4294967296 ∧
    ((2147483647 < n ∧ first L = .error 4) ∨ (n ≤ 2147483647 ∧ ¬ cZ ((L.drop 4).take 4) ∧ first L = .error 4) ∨ (n ≤ 2147483647 ∧ cZ ((L.drop 4).take 4) ∧ L.length < 12 + n ∧ first L = .error 2) ∨
     (12 + n ≤ L.length ∧ cZ ((L.drop 4).take 4) ∧ aH.cR (L.drop (8 + n)) = gn ((L.drop 4).take 4) ((L.drop 8).take n) ∧ first L = .ok ⟨(L.drop 4).take 4, (L.drop 8).take n⟩ ∧ n ≤ 2147483647) ∨
     (12 + n ≤ L.length ∧ cZ ((L.drop 4).take 4) ∧ ¬ aH.cR (L.drop (8 + n)) = gn ((L.drop 4).take 4) ((L.drop 8).take n) ∧ first L = .error 5 ∧ n ≤ 2147483647)) := by
  rcases Nat.lt_or_ge L.length 12 with h | h
  · exact .inl ⟨h, by unfold first; rw [if_pos h]⟩
  · right
    have hn := uU hL
    obtain ⟨n, e⟩ : ∃ n : Nat, aH.cR L = (n : Int) := ⟨(aH.cR L).toNat, by omega⟩
    refine ⟨n, h, e, by omega, ?_⟩
    unfold first
    rw [if_neg (by omega), e, Int.toNat_natCast]
    by_cases h1 : 2147483647 < n
    · exact .inl ⟨h1, by rw [if_pos (.inl (by omega))]⟩
    · by_cases h2 : cZ ((L.drop 4).take 4)
      · rw [if_neg (by rintro (h | h); omega; exact h h2)]
        by_cases h3 : L.length < 12 + n
        · exact .inr (.inr (.inl ⟨by omega, h2, h3, by rw [if_pos (by omega)]⟩))
        · rw [if_neg (by omega)]
          by_cases h4 : aH.cR (L.drop (8 + n)) = gn ((L.drop 4).take 4) ((L.drop 8).take n)
          · exact .inr (.inr (.inr (.inl ⟨by omega, h2, h4, by rw [if_pos h4], by omega⟩)))
          · exact .inr (.inr (.inr (.inr ⟨by omega, h2, h4, by rw [if_neg h4], by omega⟩)))
      · exact .inr (.inl ⟨by omega, h2, by rw [if_pos (.inr h2)]⟩)
def fu : Nat → List Int → List Ch → Except Int (List Ch)
  | 0, _, _ => .error 2
  | f + 1, L, l => match first L with
    | .error e => .error e
    | .ok c => if c.k = a8 then (if L.length - (12 + c.d.length) = 0 then .ok (l ++ [c]) else .error 4) else fu f (L.drop (12 + c.d.length)) (l ++ [c])
def cut (B : List Int) : Except Int (List Ch) :=
  if 262144 < B.length then .error 3 else if B.length < 8 then .error 2 else if B.take 8 = ee then fu (B.length + 1) (B.drop 8) [] else .error 4
structure Wk where
  plte : Bool
  trns : Bool
  bU : Bool
  ka : Bool
def fJ (k : List Int) : Prop := cZ k ∧ k.getD 0 0 ≤ 90
instance (k : List Int) : Decidable (fJ k) := by unfold fJ; infer_instance
def bS (w : Wk) (c : Ch) : Wk × Bool :=
  if c.k = ba then (⟨w.plte, w.trns, true, w.ka⟩, !w.ka)
  else if c.k = aS then (if w.trns then (⟨w.plte, w.trns, w.bU, w.bU⟩, false) else (⟨true, w.trns, w.bU, w.bU⟩, !w.plte && !w.bU))
  else if c.k = aY then (⟨w.plte, true, w.bU, w.bU⟩, !w.trns && !w.bU)
  else (⟨w.plte, w.trns, w.bU, w.bU⟩, decide (cZ c.k) && !decide (fJ c.k))
def walk : List Ch → Wk → Option Wk
  | [], w => some w
  | c :: l, w => if (bS w c).2 then walk l (bS w c).1 else none
def cD (l : List Ch) : Bool :=
  decide (3 ≤ l.length) && (l.map Ch.k).getD 0 [] == bQ && (l.map (·.d.length)).getD 0 0 == 13 && (l.map Ch.k).getD (l.length - 1) [] == a8 && (l.map (·.d.length)).getD (l.length - 1) 0 == 0 &&
    (match walk ((l.drop 1).take (l.length - 2)) ⟨false, false, false, false⟩ with | some w => w.bU | none => false)
end Go.aa
namespace Go.aa
open Go.ag
structure Od where
 gQ : Nat
 ends : Nat
 gR : Nat
 fD : Nat
 gb : Nat
def dC (n i : Nat) (prev : List Int) (c : Ch) (s : Od) : Option Od :=
 if c.k = bQ then (if 0 < i ∨ c.d.length ≠ 13 then none else some { s with gQ := s.gQ + 1 })
 else if c.k = a8 then (if i + 1 < n ∨ 0 < c.d.length then none else some { s with ends := s.ends + 1 })
 else if c.k = ba then (if 0 < s.gb ∧ prev ≠ ba then none else some { s with gb := s.gb + 1 })
 else if c.k = aS then (if 0 < s.gb ∨ 0 < s.fD then none else some { s with gR := s.gR + 1 })
 else if c.k = aY then (if 0 < s.gb then none else some { s with fD := s.fD + 1 })
 else if ¬ cZ c.k ∨ fJ c.k then none else some s
def rP (s : Od) : Bool := decide (s.gQ = 1) && decide (s.ends = 1) && decide (1 ≤ s.gb) && decide (s.gR ≤ 1) && decide (s.fD ≤ 1)
def kE (n : Nat) : Nat → List Int → List Ch → Od → Bool
 | _, _, [], s => rP s
 | i, prev, c :: l, s => match dC n i prev c s with | none => false | some s2 => kE n (i + 1) c.k l s2
theorem GY {n i : Nat} {prev : List Int} {c : Ch} {s s2 : Od} (h : dC n i prev c s = some s2) : s.gR ≤ s2.gR ∧ s.fD ≤ s2.fD ∧ s.gQ ≤ s2.gQ ∧ (0 < i → s2.gQ = s.gQ) := by
 unfold dC at h
 split at h
 ·split at h
  ·cases h
  ·rename_i h1 h2; cases h; exact ⟨Nat.le_refl _, Nat.le_refl _, by simp, fun h => absurd (.inl h) h2⟩
 ·split at h
  ·split at h <;> cases h; simp
  ·split at h
   ·split at h <;> cases h; simp
   ·split at h
    ·split at h <;> cases h; simp
    ·split at h
     ·split at h <;> cases h; simp
     ·split at h <;> cases h; simp
theorem tV {n : Nat} : ∀ {l : List Ch} {i : Nat} {prev : List Int} {s : Od}, (1 < s.gR ∨ 1 < s.fD ∨ (0 < i ∧ s.gQ = 0)) → kE n i prev l s = false
 | [], i, prev, s, h => by
  unfold kE rP
  rcases h with h | h | h
  ·rw [decide_eq_false (p := s.gR ≤ 1) (by omega)]; simp
  ·rw [decide_eq_false (p := s.fD ≤ 1) (by omega)]; simp
  ·rw [decide_eq_false (p := s.gQ = 1) (by omega)]; simp
 | c :: l, i, prev, s, h => by
  unfold kE
  split
  ·rfl
  ·rename_i s2 h2
   have g := GY h2
   refine tV ?_
   rcases h with h | h | h
   ·exact .inl (by omega)
   ·exact .inr (.inl (by omega))
   ·exact .inr (.inr ⟨by omega, by rw [g.2.2.2 h.1]; exact h.2⟩)
def pB (l : List Ch) (w : Wk) : Bool :=
 (match walk (l.take (l.length - 1)) w with | some w => w.bU | none => false) && (l.map Ch.k).getD (l.length - 1) [] == a8 && (l.map (·.d.length)).getD (l.length - 1) 0 == 0
structure Wi (prev : List Int) (s : Od) (w : Wk) : Prop where
 gQ : s.gQ = 1
 ends : s.ends = 0
 plte : w.plte = decide (0 < s.gR)
 trns : w.trns = decide (0 < s.fD)
 bU : w.bU = decide (0 < s.gb)
 ka : w.ka = decide (0 < s.gb ∧ prev ≠ ba)
 one : s.gR ≤ 1 ∧ s.fD ≤ 1
theorem EE {k : List Int} (h : k = bQ ∨ k = a8) : cZ k ∧ fJ k := by
 rcases h with rfl | rfl <;> decide
theorem Ee {c c2 : Ch} {l : List Ch} {w : Wk} : pB (c :: c2 :: l) w = (if (bS w c).2 then pB (c2 :: l) (bS w c).1 else false) := by
 unfold pB
 have e : (c :: c2 :: l).take ((c :: c2 :: l).length - 1) = c :: (c2 :: l).take ((c2 :: l).length - 1) := by simp
 have e4 : ((c :: c2 :: l).map Ch.k).getD ((c :: c2 :: l).length - 1) [] = ((c2 :: l).map Ch.k).getD ((c2 :: l).length - 1) [] := rfl
 have e5 : ((c :: c2 :: l).map (·.d.length)).getD ((c :: c2 :: l).length - 1) 0 = ((c2 :: l).map (·.d.length)).getD ((c2 :: l).length - 1) 0 := rfl
 rw [e, e4, e5, walk]
 cases h : (bS w c).2
 ·simp only [Bool.false_eq_true, if_false, Bool.false_and]
 ·simp only [if_true]
theorem Me {n i : Nat} {prev : List Int} {c : Ch} {s : Od} {w : Wk} (hi : 0 < i) (hn : i + 1 = n) (h : Wi prev s w) : kE n i prev [c] s = pB [c] w := by
 have hp := h.one
 have e : pB [c] w = (w.bU && (c.k == a8) && (c.d.length == 0)) := by simp [pB, walk]
 rw [e, h.bU]
 unfold kE dC
 by_cases h1 : c.k = bQ
 ·rw [if_pos h1, if_pos (.inl hi)]
  have : (c.k == a8) = false := by rw [h1]; decide
  simp [this]
 ·rw [if_neg h1]
  by_cases h2 : c.k = a8
  ·rw [if_pos h2]
   by_cases h3 : 0 < c.d.length
   ·rw [if_pos (.inr h3)]
    have : (c.d.length == 0) = false := by simp; intro h; rw [h] at h3; simp at h3
    rw [this]; simp
   ·rw [if_neg (by rintro (h | h); omega; exact h3 h)]
    simp only [kE, rP, h.gQ, h.ends]
    have e1 : (c.k == a8) = true := by rw [h2]; decide
    have e2 : (c.d.length == 0) = true := by simp; exact List.length_eq_zero_iff.1 (by omega)
    rw [e1, e2, decide_eq_true hp.1, decide_eq_true hp.2]
    simp
    omega
  ·have e1 : (c.k == a8) = false := by simpa using h2
   rw [if_neg h2, e1]
   simp only [Bool.and_false, Bool.false_and]
   split
   ·rfl
   ·rename_i s2 hs
    have he : s2.ends = 0 := by
     have hend := h.ends
     split at hs
     ·split at hs <;> cases hs; exact hend
     ·split at hs
      ·split at hs <;> cases hs; exact hend
      ·split at hs
       ·split at hs <;> cases hs; exact hend
       ·split at hs <;> cases hs; exact hend
    simp [kE, rP, he]
theorem pT {n : Nat} : ∀ {l : List Ch} {i : Nat} {prev : List Int} {s : Od} {w : Wk}, l ≠ [] → 0 < i → i + l.length = n → Wi prev s w → kE n i prev l s = pB l w
 | [], i, prev, s, w, h, _, _, _ => absurd rfl h
 | [c], i, prev, s, w, _, hi, hn, h => Me hi (by simpa using hn) h
 | c :: c2 :: l, i, prev, s, w, _, hi, hn, h => by
  have hn2 : i + 1 + (c2 :: l).length = n := by simp only [List.length_cons] at hn ⊢; omega
  have hlt : i + 1 < n := by simp only [List.length_cons] at hn; omega
  have hp := h.one
  rw [Ee]
  rw [kE]
  by_cases h1 : c.k = bQ
  ·have hc := EE (.inl h1)
   rw [show dC n i prev c s = none by unfold dC; rw [if_pos h1, if_pos (.inl hi)]]
   have : (bS w c).2 = false := by
    unfold bS
    rw [if_neg (by rw [h1]; decide), if_neg (by rw [h1]; decide), if_neg (by rw [h1]; decide)]
    simp [hc.1, hc.2]
   rw [this]; rfl
  by_cases h2 : c.k = a8
  ·have hc := EE (.inr h2)
   rw [show dC n i prev c s = none by unfold dC; rw [if_neg h1, if_pos h2, if_pos (.inl hlt)]]
   have : (bS w c).2 = false := by
    unfold bS
    rw [if_neg (by rw [h2]; decide), if_neg (by rw [h2]; decide), if_neg (by rw [h2]; decide)]
    simp [hc.1, hc.2]
   rw [this]; rfl
  by_cases h3 : c.k = ba
  ·have e : bS w c = (⟨w.plte, w.trns, true, w.ka⟩, !w.ka) := by unfold bS; rw [if_pos h3]
   rw [e]
   by_cases h4 : 0 < s.gb ∧ prev ≠ ba
   ·rw [show dC n i prev c s = none by unfold dC; rw [if_neg h1, if_neg h2, if_pos h3, if_pos h4]]
    rw [h.ka, decide_eq_true h4]; rfl
   ·rw [show dC n i prev c s = some { s with gb := s.gb + 1 } by unfold dC; rw [if_neg h1, if_neg h2, if_pos h3, if_neg h4]]
    rw [h.ka, decide_eq_false h4]
    simp only [Bool.not_false, if_true]
    refine pT (by simp) (by omega) hn2 ⟨h.gQ, h.ends, h.plte, h.trns, by simp, ?_, hp⟩
    simp [h3]
  by_cases h4 : c.k = aS
  ·by_cases h5 : 0 < s.gb ∨ 0 < s.fD
   ·rw [show dC n i prev c s = none by unfold dC; rw [if_neg h1, if_neg h2, if_neg h3, if_pos h4, if_pos h5]]
    have : (bS w c).2 = false := by
     unfold bS
     rw [if_neg h3, if_pos h4, h.trns, h.bU]
     by_cases h6 : 0 < s.fD
     ·simp [h6]
     ·have h7 : 0 < s.gb := by omega
      simp [h6, h7]
    rw [this]; rfl
   ·have h6 : ¬ 0 < s.fD := fun hh => h5 (.inr hh)
    have h7 : ¬ 0 < s.gb := fun hh => h5 (.inl hh)
    rw [show dC n i prev c s = some { s with gR := s.gR + 1 } by unfold dC; rw [if_neg h1, if_neg h2, if_neg h3, if_pos h4, if_neg h5]]
    have e : bS w c = (⟨true, w.trns, w.bU, w.bU⟩, !w.plte && !w.bU) := by
     unfold bS
     rw [if_neg h3, if_pos h4, h.trns]
     simp [h6]
    rw [e, h.plte, h.bU]
    by_cases h8 : 0 < s.gR
    ·rw [show (!decide (0 < s.gR) && !decide (0 < s.gb)) = false by simp [h8]]
     simp only [Bool.false_eq_true, if_false]
     exact tV (.inl (by simp only; omega))
    ·rw [show (!decide (0 < s.gR) && !decide (0 < s.gb)) = true by simp [h8, h7]]
     simp only [if_true]
     refine pT (by simp) (by omega) hn2 ⟨h.gQ, h.ends, by simp, h.trns, by simp [h7], ?_, by simp only; omega, hp.2⟩
     simp [h7]
  by_cases h5 : c.k = aY
  ·have e : bS w c = (⟨w.plte, true, w.bU, w.bU⟩, !w.trns && !w.bU) := by unfold bS; rw [if_neg h3, if_neg h4, if_pos h5]
   rw [e, h.trns, h.bU]
   by_cases h7 : 0 < s.gb
   ·rw [show dC n i prev c s = none by unfold dC; rw [if_neg h1, if_neg h2, if_neg h3, if_neg h4, if_pos h5, if_pos h7]]
    simp [h7]
   ·rw [show dC n i prev c s = some { s with fD := s.fD + 1 } by unfold dC; rw [if_neg h1, if_neg h2, if_neg h3, if_neg h4, if_pos h5, if_neg h7]]
    by_cases h8 : 0 < s.fD
    ·rw [show (!decide (0 < s.fD) && !decide (0 < s.gb)) = false by simp [h8]]
     simp only [Bool.false_eq_true, if_false]
     exact tV (.inr (.inl (by simp only; omega)))
    ·rw [show (!decide (0 < s.fD) && !decide (0 < s.gb)) = true by simp [h8, h7]]
     simp only [if_true]
     refine pT (by simp) (by omega) hn2 ⟨h.gQ, h.ends, h.plte, by simp, by simp [h7], ?_, hp.1, by simp only; omega⟩
     simp [h7]
  ·have e : bS w c = (⟨w.plte, w.trns, w.bU, w.bU⟩, decide (cZ c.k) && !decide (fJ c.k)) := by unfold bS; rw [if_neg h3, if_neg h4, if_neg h5]
   rw [e]
   by_cases h6 : ¬ cZ c.k ∨ fJ c.k
   ·rw [show dC n i prev c s = none by unfold dC; rw [if_neg h1, if_neg h2, if_neg h3, if_neg h4, if_neg h5, if_pos h6]]
    have : (decide (cZ c.k) && !decide (fJ c.k)) = false := by
     rcases h6 with h | h <;> simp [h]
    simp [this]
   ·rw [show dC n i prev c s = some s by unfold dC; rw [if_neg h1, if_neg h2, if_neg h3, if_neg h4, if_neg h5, if_neg h6]]
    have : (decide (cZ c.k) && !decide (fJ c.k)) = true := by
     have a : cZ c.k := Classical.byContradiction fun hh => h6 (.inl hh)
     have b : ¬ fJ c.k := fun hh => h6 (.inr hh)
     simp [a, b]
    simp only [this, if_true]
    refine pT (by simp) (by omega) hn2 ⟨h.gQ, h.ends, h.plte, h.trns, h.bU, ?_, hp⟩
    rw [h.bU]
    have : c.k ≠ ba := h3
    simp [this]
theorem KB (l : List Ch) : kE l.length 0 [] l ⟨0, 0, 0, 0, 0⟩ = cD l := by
 match l with
 | [] => rfl
 | [c] =>
  have e : cD [c] = false := by simp [cD]
  rw [e]
  unfold kE
  split
  ·rfl
  ·rename_i s2 h
   unfold dC at h
   simp only [kE, rP]
   split at h
   ·split at h <;> cases h; simp
   ·split at h
    ·split at h <;> cases h; simp
    ·split at h
     ·split at h <;> cases h; simp
     ·split at h
      ·split at h <;> cases h; simp
      ·split at h
       ·split at h <;> cases h; simp
       ·split at h <;> cases h; simp
 | c :: c2 :: l =>
  rw [kE]
  by_cases h1 : c.k = bQ
  ·by_cases h2 : c.d.length = 13
   ·rw [show dC (c :: c2 :: l).length 0 [] c ⟨0, 0, 0, 0, 0⟩ = some ⟨1, 0, 0, 0, 0⟩ by unfold dC; rw [if_pos h1, if_neg (by rintro (h | h); omega; exact h h2)]]
    simp only
    rw [pT (w := ⟨false, false, false, false⟩) (by simp) (by omega) (by simp only [List.length_cons]; omega) ⟨rfl, rfl, by simp, by simp, by simp, by simp, by simp, by simp⟩]
    unfold cD pB
    have e1 : ((c :: c2 :: l).map Ch.k).getD 0 [] = bQ := h1
    have e2 : ((c :: c2 :: l).map (·.d.length)).getD 0 0 = 13 := h2
    have e3 : ((c :: c2 :: l).drop 1).take ((c :: c2 :: l).length - 2) = (c2 :: l).take ((c2 :: l).length - 1) := by simp
    have e4 : ((c :: c2 :: l).map Ch.k).getD ((c :: c2 :: l).length - 1) [] = ((c2 :: l).map Ch.k).getD ((c2 :: l).length - 1) [] := rfl
    have e5 : ((c :: c2 :: l).map (·.d.length)).getD ((c :: c2 :: l).length - 1) 0 = ((c2 :: l).map (·.d.length)).getD ((c2 :: l).length - 1) 0 := rfl
    rw [e1, e2, e3, e4, e5]
    rcases Nat.eq_zero_or_pos l.length with h0 | h0
    ·have hl : l = [] := List.length_eq_zero_iff.1 h0
     subst hl
     simp [walk]
    ·rw [decide_eq_true (p := 3 ≤ (c :: c2 :: l).length) (by simp only [List.length_cons]; omega)]
     rw [show (bQ == bQ) = true by decide, show ((13 : Nat) == 13) = true from rfl]
     have hb : ∀ a b m : Bool, (m && a && b) = (true && true && true && a && b && m) := by decide
     exact hb _ _ _
   ·rw [show dC (c :: c2 :: l).length 0 [] c ⟨0, 0, 0, 0, 0⟩ = none by unfold dC; rw [if_pos h1, if_pos (.inr h2)]]
    have e2 : ((c :: c2 :: l).map (·.d.length)).getD 0 0 = c.d.length := rfl
    have e3 : (c.d.length == 13) = false := by simpa using h2
    unfold cD
    rw [e2, e3]
    simp
  ·have e1 : ((c :: c2 :: l).map Ch.k).getD 0 [] = c.k := rfl
   have e3 : (c.k == bQ) = false := by simpa using h1
   have e4 : cD (c :: c2 :: l) = false := by unfold cD; rw [e1, e3]; simp
   rw [e4]
   split
   ·rfl
   ·rename_i s2 h
    have hz : s2.gQ = 0 := by
     unfold dC at h
     rw [if_neg h1] at h
     split at h
     ·split at h <;> cases h; rfl
     ·split at h
      ·split at h <;> cases h; rfl
      ·split at h
       ·split at h <;> cases h; rfl
       ·split at h
        ·split at h <;> cases h; rfl
        ·split at h <;> cases h; rfl
    exact tV (.inr (.inr ⟨by omega, hz⟩))
end Go.aa
namespace Go.aa
open Go.ag
def off (a b : Int) : Int := max (a - b) (b - a)
def pU (a b c : Int) : Int :=
  if off (a + b - c) a ≤ off (a + b - c) b ∧ off (a + b - c) a ≤ off (a + b - c) c then a else if off (a + b - c) b ≤ off (a + b - c) c then b else c
def lz (kind a b c : Int) : Int := if kind = 1 then a else if kind = 2 then b else if kind = 3 then (a + b) / 2 else if kind = 4 then pU a b c else 0
def gz (l : List Int) (i back : Nat) : Int := if i < back then 0 else l.getD (i - back) 0
def iK (kind : Int) (row above : List Int) (back : Nat) (out : List Int) (i : Nat) : Int := (row.getD i 0 + lz kind (gz out i back) (above.getD i 0) (gz above i back)) % 256
def gx (kind : Int) (row above : List Int) (back : Nat) : Nat → List Int
  | 0 => []
  | i + 1 => gx kind row above back i ++ [iK kind row above back (gx kind row above back i) i]
def fa (kind : Int) (row above : List Int) (back : Nat) : List Int := gx kind row above back row.length
theorem mq (kind : Int) (row above : List Int) (back : Nat) : ∀ i, (gx kind row above back i).length = i
  | 0 => rfl
  | i + 1 => by simp [gx, mq kind row above back i]
theorem uT (kind : Int) (row above : List Int) (back : Nat) : (fa kind row above back).length = row.length := mq ..
theorem sw (kind : Int) (row above : List Int) (back : Nat) : ∀ i, an (gx kind row above back i)
  | 0 => fun x hx => by cases hx
  | i + 1 => aJ.an.snoc (sw kind row above back i) (by unfold iK; omega)
theorem Nq {a b : List Int} {i back : Nat} (ha : a.length = i) (hb : 0 < back) : gz (a ++ b) i back = gz a i back := by
  unfold gz
  split
  · rfl
  · rw [List.getD_eq_getElem?_getD, List.getD_eq_getElem?_getD, List.getElem?_append_left (by omega)]
theorem wq {l : List Int} (h : an l) (i back : Nat) : 0 ≤ gz l i back ∧ gz l i back < 256 := by
  unfold gz
  split
  · decide
  · exact h.get _
structure Ps where
  x : Int
  y : Int
  dx : Int
  dy : Int
  w : Int
  h : Int
def many (frm step end_ : Int) : Int := if end_ ≤ frm then 0 else (end_ - frm + step - 1) / step
def mi (x y dx dy w h : Int) : Ps := ⟨x, y, dx, dy, many x dx w, many y dy h⟩
def ev (w h : Int) : List Ps := [mi 0 0 8 8 w h, mi 4 0 8 8 w h, mi 0 4 4 8 w h, mi 2 0 4 4 w h, mi 0 2 2 4 w h, mi 1 0 2 2 w h, mi 0 1 1 2 w h]
def aE (w h : Int) : List Ps := (ev w h).filter fun p => decide (0 < p.w) && decide (0 < p.h)
def whole (w h : Int) : List Ps := [⟨0, 0, 1, 1, w, h⟩]
def aT (w h : Int) : Int := if w < 1 ∨ h < 1 then 1 else if 256 < w ∨ 256 < h ∨ 16384 / h < w then 6 else 0
def de (w bits : Int) : Int := (w * bits + 7) / 8
def dH (l : List Ps) (bits : Int) : Int := (l.map fun p => if 0 < p.w then p.h * (1 + de p.w bits) else 0).sum
structure Hd where
  w : Int
  h : Int
  dep : Int
  ar : Int
  aZ : Bool
def parts (c : Int) : Int := if c = 0 ∨ c = 3 then 1 else if c = 2 then 3 else if c = 4 then 2 else if c = 6 then 4 else 0
def deep (c d : Int) : Prop := (c = 0 ∧ (d = 1 ∨ d = 2 ∨ d = 4 ∨ d = 8 ∨ d = 16)) ∨ (c = 3 ∧ (d = 1 ∨ d = 2 ∨ d = 4 ∨ d = 8)) ∨ ((c = 2 ∨ c = 4 ∨ c = 6) ∧ (d = 8 ∨ d = 16))
instance (c d : Int) : Decidable (deep c d) := by unfold deep; infer_instance
def aL (B : List Int) : Hd := ⟨aH.cR B, aH.cR (B.drop 4), B.getD 8 0, B.getD 9 0, decide (B.getD 12 0 = 1)⟩
def eF (B : List Int) : Int :=
  if B.length ≠ 13 then 4
  else if ¬ deep (aL B).ar (aL B).dep ∨ 0 < B.getD 10 0 + B.getD 11 0 ∨ 1 < B.getD 12 0 ∨ (aL B).w = 0 ∨ (aL B).h = 0 then 4
  else if aT (aL B).w (aL B).h = 0 then 0 else 6
def gh (B : List Int) (i : Nat) : Int := B.getD (i / 8) 0 / 2 ^ (7 - i % 8) % 2
def bK (B : List Int) (at_ : Nat) : Nat → Int
  | 0 => 0
  | n + 1 => 2 * bK B at_ n + gh B (at_ + n)
structure Fl where
  hd : Hd
  plte : List Int
  trns : List Int
def bD (l : List Ch) (k : List Int) : List Int := match l.find? (fun c => c.k == k) with | some c => c.d | none => []
def dZ (l : List Ch) (k : List Int) : Bool := l.any fun c => c.k == k
def bU (l : List Ch) : List Int := (l.filter fun c => c.k == ba).flatMap (·.d)
def l9 (h : Hd) (plte : List Int) (has : Bool) (trns : List Int) (is : Bool) : Prop :=
  (if has then ¬ (h.ar = 0 ∨ h.ar = 4) ∧ (h.ar = 3 → (plte.length : Int) / 3 ≤ 2 ^ h.dep.toNat) ∧ plte.length % 3 = 0 ∧ 0 < plte.length ∧ plte.length / 3 ≤ 256 else h.ar ≠ 3) ∧
  (is = true → (h.ar = 3 ∧ trns.length ≤ plte.length / 3) ∨ (h.ar = 0 ∧ trns.length = 2) ∨ (h.ar = 2 ∧ trns.length = 6))
instance (h : Hd) (plte : List Int) (has : Bool) (trns : List Int) (is : Bool) : Decidable (l9 h plte has trns is) := by unfold l9; infer_instance
def eu (h : Hd) (row : List Int) (x : Nat) : List Int := (List.range (parts h.ar).toNat).map fun i => bK row (x * (parts h.ar).toNat * h.dep.toNat + i * h.dep.toNat) h.dep.toNat
def Eo (h : Hd) (v : Int) : Int := v * (65535 / (2 ^ h.dep.toNat - 1))
def aQ (h : Hd) (trns : List Int) : List Int := if h.ar = 0 ∨ h.ar = 2 then (List.range (trns.length / 2)).map fun i => (trns.getD (2 * i) 0 * 256 + trns.getD (2 * i + 1) 0) % 2 ^ h.dep.toNat else []
def gg (f : Fl) (v : List Int) : Option (List Int) :=
  if f.hd.ar = 3 then
    (if (f.plte.length / 3 : Nat) ≤ (v.getD 0 0).toNat then none
     else some [f.plte.getD (3 * (v.getD 0 0).toNat) 0 * 257, f.plte.getD (3 * (v.getD 0 0).toNat + 1) 0 * 257, f.plte.getD (3 * (v.getD 0 0).toNat + 2) 0 * 257, if (v.getD 0 0).toNat < f.trns.length then f.trns.getD (v.getD 0 0).toNat 0 * 257 else 65535])
  else
    let u := v.map (Eo f.hd)
    let a := if 0 < (aQ f.hd f.trns).length ∧ v = aQ f.hd f.trns then 0 else if f.hd.ar = 4 ∨ f.hd.ar = 6 then u.getD (u.length - 1) 0 else 65535
    if f.hd.ar = 0 ∨ f.hd.ar = 4 then some [u.getD 0 0, u.getD 0 0, u.getD 0 0, a] else some [u.getD 0 0, u.getD 1 0, u.getD 2 0, a]
def jq (w : Int) (pix : List Int) (x y : Int) (c : List Int) : List Int := pix.take (4 * (y * w + x)).toNat ++ c ++ pix.drop ((4 * (y * w + x)).toNat + 4)
def eV (f : Fl) (p : Ps) (y : Int) (row : List Int) : Nat → Nat → List Int → Option (List Int)
  | 0, _, pix => some pix
  | k + 1, i, pix => match gg f (eu f.hd row i) with
    | none => none
    | some c => eV f p y row k (i + 1) (jq f.hd.w pix (p.x + i * p.dx) (p.y + y * p.dy) c)
def dO (f : Fl) (D : List Int) (n back : Nat) (p : Ps) : Nat → Nat → Nat → List Int → List Int → Option (Nat × List Int)
  | 0, _, at_, _, pix => some (at_, pix)
  | k + 1, y, at_, above, pix =>
    if 4 < D.getD at_ 0 then none
    else match eV f p y (fa (D.getD at_ 0) ((D.drop (at_ + 1)).take n) above back) p.w.toNat 0 pix with
    | none => none
    | some pix2 => dO f D n back p k (y + 1) (at_ + 1 + n) (fa (D.getD at_ 0) ((D.drop (at_ + 1)).take n) above back) pix2
def bitsOf (h : Hd) : Int := parts h.ar * h.dep
def eo (f : Fl) (D : List Int) : List Ps → Nat → List Int → Option (List Int)
  | [], _, pix => some pix
  | p :: l, at_, pix => match dO f D (de p.w (bitsOf f.hd)).toNat (max 1 (bitsOf f.hd / 8)).toNat p p.h.toNat 0 at_ [] pix with
    | none => none
    | some (at2, pix2) => eo f D l at2 pix2
def aN (h : Hd) : List Ps := if h.aZ then aE h.w h.h else whole h.w h.h
structure pC where
  w : Int
  h : Int
  pix : List Int
def dM : pC := ⟨0, 0, []⟩
def ku (B : List Int) (r : pC × Int) : Prop :=
  match cut B with
  | .error e => r = (dM, e)
  | .ok l =>
    if cD l = false then r = (dM, 4)
    else if eF ((l.map Ch.d).getD 0 []) ≠ 0 then r = (dM, eF ((l.map Ch.d).getD 0 []))
    else if ¬ l9 (aL ((l.map Ch.d).getD 0 [])) (bD l aS) (dZ l aS) (bD l aY) (dZ l aY) then r = (dM, 4)
    else ∃ q, aH.mv (bU l) (dH (aN (aL ((l.map Ch.d).getD 0 []))) (bitsOf (aL ((l.map Ch.d).getD 0 [])))) q ∧
      if q.2 ≠ 0 then r = (dM, q.2)
      else if (q.1.length : Int) < dH (aN (aL ((l.map Ch.d).getD 0 []))) (bitsOf (aL ((l.map Ch.d).getD 0 []))) then r = (dM, 2)
      else match eo ⟨aL ((l.map Ch.d).getD 0 []), bD l aS, bD l aY⟩ q.1 (aN (aL ((l.map Ch.d).getD 0 []))) 0 (List.replicate (4 * (aL ((l.map Ch.d).getD 0 [])).w * (aL ((l.map Ch.d).getD 0 [])).h).toNat 0) with
        | none => r = (dM, 4)
        | some pix => r = (⟨(aL ((l.map Ch.d).getD 0 [])).w, (aL ((l.map Ch.d).getD 0 [])).h, pix⟩, 0)
end Go.aa
namespace Go.aa
open Go.ag
theorem kO {frm step e k : Int} (hs : step = 1 ∨ step = 2 ∨ step = 4 ∨ step = 8) (hk : 0 ≤ k) : frm + k * step < e ↔ k < many frm step e := by
  unfold many
  rcases hs with rfl | rfl | rfl | rfl <;> split <;> omega
theorem km {frm step e : Int} (hs : step = 1 ∨ step = 2 ∨ step = 4 ∨ step = 8) : 0 ≤ many frm step e := by
  unfold many
  rcases hs with rfl | rfl | rfl | rfl <;> split <;> omega
theorem qG {frm step e : Int} (hf : 0 ≤ frm) (he : 0 ≤ e) (hs : step = 1 ∨ step = 2 ∨ step = 4 ∨ step = 8) : many frm step e ≤ e := by
  unfold many
  rcases hs with rfl | rfl | rfl | rfl <;> split <;> omega
theorem qR (B : List Int) (i : Nat) : 0 ≤ gh B i ∧ gh B i ≤ 1 := by unfold gh; omega
theorem lG (B : List Int) (at_ : Nat) : ∀ n : Nat, 0 ≤ bK B at_ n ∧ bK B at_ n < 2 ^ n
  | 0 => by simp [bK]
  | n + 1 => by
    have ih := lG B at_ n
    have hb := qR B (at_ + n)
    simp only [bK]
    have e : (2 : Int) ^ (n + 1) = 2 * 2 ^ n := by rw [Int.pow_succ]; omega
    rw [e]
    omega
theorem sQ (B : List Int) (at_ m : Nat) : ∀ n, bK B at_ (m + n) = bK B at_ m * 2 ^ n + bK B (at_ + m) n
  | 0 => by simp [bK]
  | n + 1 => by
    have ih := sQ B at_ m n
    have e : bK B at_ m * (2 ^ n * 2) = (bK B at_ m * 2 ^ n) * 2 := (Int.mul_assoc _ _ _).symm
    rw [← Nat.add_assoc, bK, ih, bK, Int.pow_succ, e, Nat.add_assoc]
    omega
theorem kg (B : List Int) (j k : Nat) (hk : k < 8) : gh B (8 * j + k) = B.getD j 0 / 2 ^ (7 - k) % 2 := by
  unfold gh
  rw [show (8 * j + k) / 8 = j by omega, show (8 * j + k) % 8 = k by omega]
theorem Hj (B : List Int) (a : Nat) : bK B a 8 = 2 * (2 * (2 * (2 * (2 * (2 * (2 * (2 * 0 + gh B (a + 0)) + gh B (a + 1)) + gh B (a + 2)) + gh B (a + 3)) + gh B (a + 4)) + gh B (a + 5)) + gh B (a + 6)) + gh B (a + 7) := rfl
theorem Uo {x : Int} (h : 0 ≤ x ∧ x < 256) : 2 * (2 * (2 * (2 * (2 * (2 * (2 * (2 * 0 + x / 128 % 2) + x / 64 % 2) + x / 32 % 2) + x / 16 % 2) + x / 8 % 2) + x / 4 % 2) + x / 2 % 2) + x / 1 % 2 = x := by omega
theorem mm {B : List Int} {j : Nat} (hb : 0 ≤ B.getD j 0 ∧ B.getD j 0 < 256) : bK B (8 * j) 8 = B.getD j 0 := by
  rw [Hj, kg B j 0 (by decide), kg B j 1 (by decide), kg B j 2 (by decide), kg B j 3 (by decide), kg B j 4 (by decide), kg B j 5 (by decide), kg B j 6 (by decide), kg B j 7 (by decide)]
  exact Uo hb
theorem qQ {B : List Int} {j : Nat} (hb : 0 ≤ B.getD j 0 ∧ B.getD j 0 < 256) (hc : 0 ≤ B.getD (j + 1) 0 ∧ B.getD (j + 1) 0 < 256) : bK B (8 * j) 16 = B.getD j 0 * 256 + B.getD (j + 1) 0 := by
  have h := sQ B (8 * j) 8 8
  rw [mm hb, show 8 * j + 8 = 8 * (j + 1) by omega, mm hc] at h
  simpa using h
end Go.aa
namespace Go.aa
open Go.ag
def nH (n : Int) : List Int := [n / 16777216 % 256, n / 65536 % 256, n / 256 % 256, n % 256]
theorem Bj (n : Int) : (nH n).length = 4 := rfl
theorem zR (n : Int) : an (nH n) := fun x hx => by
  simp only [nH, List.mem_cons, List.not_mem_nil, or_false] at hx
  rcases hx with rfl | rfl | rfl | rfl <;> omega
theorem Ao {n : Int} (h : 0 ≤ n ∧ n < 4294967296) (r : List Int) : aH.cR (nH n ++ r) = n := by
  simp only [aH.cR, nH, List.cons_append, List.nil_append, List.getD_cons_zero, List.getD_cons_succ]
  omega
def e9 (c : Ch) : List Int := nH (c.d.length : Int) ++ (c.k ++ (c.d ++ nH (gn c.k c.d)))
theorem jb {c : Ch} (hk : c.k.length = 4) : (e9 c).length = 12 + c.d.length := by
  simp only [e9, List.length_append, Bj, hk]; omega
def jJ (c : Ch) : Prop := cZ c.k ∧ an c.d ∧ c.d.length ≤ 2147483647
theorem rk {k : List Int} (h : cZ k) : an k := fun x hx => by
  have := h.2 x hx
  unfold jK at this; omega
theorem N4 {k d : List Int} (hk : an k) (hd : an d) : 0 ≤ gn k d ∧ gn k d < 4294967296 := th (th (by decide) hk) hd
theorem Li {c : Ch} (h : jJ c) : an (e9 c) := aJ.an.app (zR _) (aJ.an.app (rk h.1) (aJ.an.app h.2.1 (zR _)))
theorem ud {c : Ch} (h : jJ c) (r : List Int) : first (e9 c ++ r) = .ok c := by
  obtain ⟨hk, hd, hl⟩ := h
  have h4 := hk.1
  have hs := N4 (rk hk) hd
  have e0 : e9 c ++ r = nH (c.d.length : Int) ++ (c.k ++ (c.d ++ (nH (gn c.k c.d) ++ r))) := by simp [e9]
  have d4 : (e9 c ++ r).drop 4 = c.k ++ (c.d ++ (nH (gn c.k c.d) ++ r)) := by rw [e0]; exact List.drop_left' rfl
  have e1 : ((e9 c ++ r).drop 4).take 4 = c.k := by rw [d4]; exact List.take_left' h4
  have d8 : (e9 c ++ r).drop 8 = c.d ++ (nH (gn c.k c.d) ++ r) := by
    rw [show 8 = 4 + 4 from rfl, ← List.drop_drop, d4]
    exact List.drop_left' h4
  have e2 : ((e9 c ++ r).drop 8).take c.d.length = c.d := by rw [d8]; exact List.take_left
  have e3 : (e9 c ++ r).drop (8 + c.d.length) = nH (gn c.k c.d) ++ r := by
    rw [← List.drop_drop, d8]; exact List.drop_left
  have e4 : aH.cR (e9 c ++ r) = (c.d.length : Int) := by rw [e0]; exact Ao (by omega) _
  have e5 : (e9 c ++ r).length = 12 + c.d.length + r.length := by rw [List.length_append, jb h4]
  unfold first
  rw [if_neg (by omega), e4, Int.toNat_natCast, e1, if_neg (by rintro (h | h); omega; exact h hk), if_neg (by omega), e2, e3, Ao hs, if_pos rfl]
def gN (l : List Ch) : List Int := l.flatMap e9
theorem vA {e : Ch} (he : jJ e) (hek : e.k = a8) : ∀ (l : List Ch) (f : Nat) (a : List Ch), (∀ c ∈ l, jJ c ∧ c.k ≠ a8) → l.length < f → fu f (gN (l ++ [e])) a = .ok (a ++ (l ++ [e]))
  | [], f, a, _, hf => by
    obtain ⟨f, rfl⟩ : ∃ g, f = g + 1 := ⟨f - 1, by simp at hf; omega⟩
    have e1 : gN ([] ++ [e]) = e9 e ++ [] := by simp [gN]
    rw [e1, fu, ud he]
    simp only
    rw [if_pos hek, List.append_nil, jb he.1.1, Nat.sub_self, if_pos rfl]
    simp
  | c :: l, f, a, hl, hf => by
    obtain ⟨f, rfl⟩ : ∃ g, f = g + 1 := ⟨f - 1, by simp at hf; omega⟩
    have hc := hl c (by simp)
    have e1 : gN (c :: l ++ [e]) = e9 c ++ gN (l ++ [e]) := by simp [gN]
    have e2 : (e9 c ++ gN (l ++ [e])).drop (12 + c.d.length) = gN (l ++ [e]) := List.drop_left' (jb hc.1.1.1)
    rw [e1, fu, ud hc.1]
    simp only
    rw [if_neg hc.2, e2, vA he hek l f _ (fun x hx => hl x (by simp [hx])) (by simp at hf; omega)]
    simp
theorem rp : ∀ l : List Ch, (∀ c ∈ l, jJ c) → l.length ≤ (gN l).length
  | [], _ => Nat.zero_le _
  | c :: l, h => by
    have ih := rp l (fun x hx => h x (by simp [hx]))
    have := jb (h c (by simp)).1.1
    have e : gN (c :: l) = e9 c ++ gN l := by simp [gN]
    rw [e, List.length_append, List.length_cons]
    omega
def aX (l : List Ch) : List Int := ee ++ gN l
theorem zi {l : List Ch} {e : Ch} (he : jJ e) (hek : e.k = a8) (hl : ∀ c ∈ l, jJ c ∧ c.k ≠ a8) (hn : (aX (l ++ [e])).length ≤ 262144) : cut (aX (l ++ [e])) = .ok (l ++ [e]) := by
  have h8 : (aX (l ++ [e])).length = 8 + (gN (l ++ [e])).length := by simp [aX, ee]; omega
  have e1 : (aX (l ++ [e])).take 8 = ee := List.take_left' rfl
  have e2 : (aX (l ++ [e])).drop 8 = gN (l ++ [e]) := List.drop_left' rfl
  have hge := rp (l ++ [e]) (fun c hc => by
    rcases List.mem_append.1 hc with h | h
    · exact (hl c h).1
    · rw [List.mem_singleton.1 h]; exact he)
  unfold cut
  rw [if_neg (by omega), if_neg (by omega), if_pos e1, e2]
  have := vA he hek l ((aX (l ++ [e])).length + 1) [] hl (by rw [List.length_append, List.length_singleton] at hge; omega)
  simpa using this
theorem vZ {l : List Ch} (h : ∀ c ∈ l, jJ c) : an (aX l) := by
  have hs : an ee := by unfold an; decide
  refine aJ.an.app hs (fun x hx => ?_)
  obtain ⟨c, hc, hx⟩ := List.mem_flatMap.1 hx
  exact Li (h c hc) x hx
end Go.aa
namespace Go.aa
open Go.ag
def dr (l : List Ch) : List Int := (l.map Ch.d).getD 0 []
def oU (l : List Ch) : Fl := ⟨aL (dr l), bD l aS, bD l aY⟩
def want (h : Hd) : Int := dH (aN h) (bitsOf h)
def jd (h : Hd) : List Int := List.replicate (4 * h.w * h.h).toNat 0
inductive Pw (B : List Int) (r : pC × Int) : Prop
  | cut (e : Int) (h : cut B = .error e) (hr : r = (dM, e))
  | ord (l : List Ch) (h : aa.cut B = .ok l) (ho : cD l = false) (hr : r = (dM, 4))
  | head (l : List Ch) (h : aa.cut B = .ok l) (ho : cD l = true) (hh : eF (dr l) ≠ 0) (hr : r = (dM, eF (dr l)))
  | table (l : List Ch) (h : aa.cut B = .ok l) (ho : cD l = true) (hh : eF (dr l) = 0) (ht : ¬ l9 (aL (dr l)) (bD l aS) (dZ l aS) (bD l aY) (dZ l aY)) (hr : r = (dM, 4))
  | open_ (l : List Ch) (q : List Int × Int) (h : aa.cut B = .ok l) (ho : cD l = true) (hh : eF (dr l) = 0) (ht : l9 (aL (dr l)) (bD l aS) (dZ l aS) (bD l aY) (dZ l aY)) (hq : aH.mv (bU l) (want (aL (dr l))) q)
      (hr : (q.2 ≠ 0 ∧ r = (dM, q.2)) ∨ (q.2 = 0 ∧ (q.1.length : Int) < want (aL (dr l)) ∧ r = (dM, 2)) ∨
        (q.2 = 0 ∧ want (aL (dr l)) ≤ q.1.length ∧ eo (oU l) q.1 (aN (aL (dr l))) 0 (jd (aL (dr l))) = none ∧ r = (dM, 4)) ∨
        ∃ pix, q.2 = 0 ∧ want (aL (dr l)) ≤ q.1.length ∧ eo (oU l) q.1 (aN (aL (dr l))) 0 (jd (aL (dr l))) = some pix ∧ r = (⟨(aL (dr l)).w, (aL (dr l)).h, pix⟩, 0))
theorem ku.ways {B : List Int} {r : pC × Int} (h : ku B r) : Pw B r := by
  unfold ku at h
  cases hc : cut B with
  | error e => rw [hc] at h; exact .cut e hc h
  | ok l =>
    rw [hc] at h
    simp only at h
    split at h
    · rename_i ho; exact .ord l hc ho h
    · rename_i ho
      have ho : cD l = true := by simpa using ho
      split at h
      · rename_i hh; exact .head l hc ho hh h
      · rename_i hh
        have hh : eF (dr l) = 0 := by simpa [dr] using hh
        split at h
        · rename_i ht; exact .table l hc ho hh ht h
        · rename_i ht
          have ht := Classical.not_not.1 ht
          obtain ⟨q, hq, h⟩ := h
          refine .open_ l q hc ho hh ht hq ?_
          split at h
          · rename_i h1; exact .inl ⟨h1, h⟩
          · rename_i h1
            have h1 : q.2 = 0 := by simpa using h1
            split at h
            · rename_i h2; exact .inr (.inl ⟨h1, h2, h⟩)
            · rename_i h2
              have h2 : want (aL (dr l)) ≤ q.1.length := Int.not_lt.1 h2
              split at h
              · rename_i h3; exact .inr (.inr (.inl ⟨h1, h2, h3, h⟩))
              · rename_i pix h3; exact .inr (.inr (.inr ⟨pix, h1, h2, h3, h⟩))
theorem ym : ∀ {f : Nat} {L : List Int} {a l : List Ch}, an L → (∀ c ∈ a, an c.d) → fu f L a = .ok l → ∀ c ∈ l, an c.d
  | 0, L, a, l, _, _, h => by cases h
  | f + 1, L, a, l, hL, ha, h => by
    rw [fu] at h
    split at h
    · cases h
    · rename_i c hc
      have hd : an c.d := by
        unfold first at hc
        split at hc
        · cases hc
        · split at hc
          · cases hc
          · split at hc
            · cases hc
            · split at hc
              · cases hc
                exact fun x hx => hL x (List.mem_of_mem_drop (List.mem_of_mem_take hx))
              · cases hc
      have ha2 : ∀ y ∈ a ++ [c], an y.d := fun y hy => by
        rcases List.mem_append.1 hy with hy | hy
        · exact ha y hy
        · rw [List.mem_singleton.1 hy]; exact hd
      split at h
      · split at h
        · cases h; exact ha2
        · cases h
      · exact ym (fun x hx => hL x (List.mem_of_mem_drop hx)) ha2 h
theorem jc {B : List Int} {l : List Ch} (hB : an B) (h : cut B = .ok l) : ∀ c ∈ l, an c.d := by
  unfold cut at h
  split at h
  · cases h
  · split at h
    · cases h
    · split at h
      · exact ym (fun x hx => hB x (List.mem_of_mem_drop hx)) (fun c hc => by cases hc) h
      · cases h
theorem sf {l : List Ch} (h : ∀ c ∈ l, an c.d) : an (bU l) := fun x hx => by
  obtain ⟨c, hc, hx⟩ := List.mem_flatMap.1 hx
  exact h c (List.mem_filter.1 hc).1 x hx
end Go.aa
namespace Go.aa
open Go.ag Go.ab
theorem pA : ∀ (f : Nat) {B : List Int}, B.length ≤ 65535 * (f + 1) → an B → ∀ X ∈ aJ.ie f B, X.length ≤ 65535 ∧ an X
  | 0, B, h, hB, X, hX => by
    simp only [aJ.ie, List.mem_singleton] at hX
    subst hX
    exact ⟨by omega, hB⟩
  | f + 1, B, h, hB, X, hX => by
    unfold aJ.ie at hX
    split at hX
    · simp only [List.mem_singleton] at hX
      subst hX
      exact ⟨by omega, hB⟩
    · rcases List.mem_cons.1 hX with rfl | hX
      · exact ⟨by rw [List.length_take]; omega, fun x hx => hB x (List.mem_of_mem_take hx)⟩
      · exact pA f (by rw [List.length_drop]; omega) (fun x hx => hB x (List.mem_of_mem_drop hx)) X hX
theorem Ah {B : List Int} (hl : B.length ≤ 4194304) (hB : an B) : an (aJ.gJ B) := rW _ (pA 64 (by omega) hB)
theorem SD {B : List Int} {mo mo' : Int} {q : List Int × Int × Int} (hB : an B) (h : iU B mo q) (he : q.2.2 = 0) (hl : (q.1.length : Int) ≤ mo') : iU B mo' q := by
  rcases h with ⟨_, rfl⟩ | ⟨h0, o, ho, rfl⟩
  · exact absurd he (by decide)
  · cases o with
    | error e => exact absurd he (Kk ho rfl)
    | ok p =>
      obtain ⟨x, n⟩ := p
      exact .inr ⟨by have : (x.length : Int) ≤ mo' := hl; omega, _, (A9 hB ho (nW h0) x n rfl).2.1 hl, rfl⟩
def cP (B : List Int) : List Int := [120, 1] ++ aJ.gJ B ++ aH.jS B
theorem AI (B : List Int) : cP B = 120 :: 1 :: (aJ.gJ B ++ aH.jS B) := by simp [cP]
theorem nL {B : List Int} (h : B.length ≤ 4194304) : (cP B).length = B.length + 5 * ((B.length - 1) / 65535 + 1) + 6 := by
  simp only [cP, List.length_append, aJ.uR h, aH.uB, List.length_cons, List.length_nil]; omega
theorem Fc {B : List Int} {mo : Int} (hB : an B) (hl : B.length ≤ 4194304) (hm : (B.length : Int) ≤ mo) : aH.mv (cP B) mo (B, 0) := by
  have hs := aJ.uR hl
  have hr := (aJ.Ma (t := aH.jS B) hl hB (aH.rm B)).1
  have hb : an (aJ.gJ B ++ aH.jS B) := aJ.an.app (Ah hl hB) (aH.rm B)
  rw [AI]
  refine .inr (.inr ⟨by simp [aH.uB], aH.TU, _, SD hb hr rfl hm, ?_⟩)
  have e1 : (aJ.gJ B ++ aH.jS B).length - (aJ.gJ B).length = 4 := by rw [List.length_append, aH.uB]; omega
  have e2 : (aJ.gJ B ++ aH.jS B).drop (aJ.gJ B).length = aH.jS B := List.drop_left
  simp only [aH.fin, List.drop_succ_cons, List.drop_zero, Int.toNat_natCast, not_true_eq_false, if_false, e1, e2]
  rw [if_neg (by decide), if_neg (by decide), if_pos trivial]
theorem FG {B : List Int} (hB : an B) (hl : B.length ≤ 4194304) : an (cP B) := by
  rw [AI]
  exact aH.od (by decide) (aH.od (by decide) (aJ.an.app (Ah hl hB) (aH.rm B)))
end Go.aa
namespace Go.aa
open Go.ag
def two (l : List Int) : List Int := l.flatMap fun s => [s / 256, s % 256]
theorem qX (l : List Int) : (two l).length = 2 * l.length := by
  induction l with
  | nil => rfl
  | cons a l ih => simp only [two, List.flatMap_cons, List.length_append, List.length_cons, List.length_nil] at ih ⊢; omega
theorem uW : ∀ (l : List Int) (m : Nat), m < l.length → (two l).getD (2 * m) 0 = l.getD m 0 / 256 ∧ (two l).getD (2 * m + 1) 0 = l.getD m 0 % 256
  | [], m, h => by simp at h
  | a :: l, 0, _ => ⟨rfl, rfl⟩
  | a :: l, m + 1, h => by
    have ih := uW l m (by simpa using h)
    have e : two (a :: l) = (a / 256) :: (a % 256) :: two l := rfl
    rw [e, show 2 * (m + 1) = 2 * m + 1 + 1 by omega, show 2 * m + 1 + 1 + 1 = (2 * m + 1) + 1 + 1 by omega]
    simpa using ih
def jA (l : List Int) : Prop := ∀ x ∈ l, 0 ≤ x ∧ x < 65536
theorem jA.get {l : List Int} (h : jA l) (i : Nat) : 0 ≤ l.getD i 0 ∧ l.getD i 0 < 65536 := by
  rcases Nat.lt_or_ge i l.length with k | k
  · rw [List.getD_eq_getElem?_getD, List.getElem?_eq_getElem k]; exact h _ (List.getElem_mem k)
  · rw [List.getD_eq_getElem?_getD, List.getElem?_eq_none k]; decide
theorem qK {l : List Int} (h : jA l) : an (two l) := fun x hx => by
  obtain ⟨s, hs, hx⟩ := List.mem_flatMap.1 hx
  have := h s hs
  simp only [List.mem_cons, List.not_mem_nil, or_false] at hx
  rcases hx with rfl | rfl <;> omega
def hI (P : List Int) (W y : Nat) : List Int := two ((P.drop (4 * W * y)).take (4 * W))
def bX (P : List Int) (W : Nat) : Nat → List Int
  | 0 => []
  | y + 1 => bX P W y ++ (0 :: hI P W y)
theorem yf {P : List Int} {W H y : Nat} (hP : P.length = 4 * W * H) (hy : y < H) : (hI P W y).length = 8 * W := by
  have : 4 * W * (y + 1) ≤ 4 * W * H := Nat.mul_le_mul_left _ hy
  rw [Nat.mul_succ] at this
  rw [hI, qX, List.length_take, List.length_drop]; omega
theorem rV {P : List Int} {W H : Nat} (hP : P.length = 4 * W * H) : ∀ y, y ≤ H → (bX P W y).length = y * (1 + 8 * W)
  | 0, _ => by simp [bX]
  | y + 1, h => by
    have e : (y + 1) * (1 + 8 * W) = y * (1 + 8 * W) + (1 + 8 * W) := Nat.succ_mul _ _
    rw [bX, List.length_append, rV hP y (by omega), List.length_cons, yf hP (by omega), e]; omega
theorem rY (P : List Int) (W y : Nat) : ∀ k, ∃ r, bX P W (y + k) = bX P W y ++ r
  | 0 => ⟨[], by simp⟩
  | k + 1 => by
    obtain ⟨r, h⟩ := rY P W y k
    exact ⟨r ++ (0 :: hI P W (y + k)), by rw [← Nat.add_assoc, bX, h, List.append_assoc]⟩
theorem L5 {P : List Int} {W H y : Nat} (hP : P.length = 4 * W * H) (hy : y < H) : (bX P W H).getD (y * (1 + 8 * W)) 0 = 0 ∧ ((bX P W H).drop (y * (1 + 8 * W) + 1)).take (8 * W) = hI P W y := by
  obtain ⟨r, h⟩ := rY P W (y + 1) (H - (y + 1))
  rw [show y + 1 + (H - (y + 1)) = H by omega, bX, List.append_assoc, List.cons_append] at h
  have hl := rV hP y (by omega)
  have hr := yf hP hy
  rw [h]
  constructor
  · rw [List.getD_eq_getElem?_getD, List.getElem?_append_right (by omega), hl, Nat.sub_self]; rfl
  · rw [← List.drop_drop, ← hl, List.drop_left, List.drop_succ_cons, List.drop_zero, ← hr, List.take_left]
theorem oo {P : List Int} (W : Nat) (h : jA P) : ∀ y, an (bX P W y)
  | 0 => fun x hx => by cases hx
  | y + 1 => aJ.an.app (oo W h y) (aH.od (by decide) (qK (fun x hx => h x (List.mem_of_mem_drop (List.mem_of_mem_take hx)))))
end Go.aa
