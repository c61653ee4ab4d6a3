/- Steps of the proof: the walks of the functions that the statement reaches; printed by a program of ours. -/
import Derived.Test.YtoplcgkafaoafaaInfPlain
import Derived.Test.YtoplcgkafaoafaaInfBase
/-
  The codes that a block tells, step by step; what is known of a symbol that was taken.
-/
namespace Go.InfP
set_option linter.unusedVariables false
open Go.BitP Go.HuffP
set_option linter.unusedVariables false
set_option linter.unusedSimpArgs false
theorem ex_or {α : Type} (E : Except Int α) : (∃ e, E = .error e) ∨ ∃ x, E = .ok x := by
  cases E with
  | error e => exact .inl ⟨e, rfl⟩
  | ok x => exact .inr ⟨x, rfl⟩
theorem tkGo_hit {ls B : List Int} {a : Nat} : ∀ {r n n' : Nat} {s : Int}, tkGo ls B a r n = .hit n' s → n < n' ∧ a + n' ≤ 8 * B.length ∧ (s ∈ ord ls ∨ s = 0) := by
  intro r
  induction r with
  | zero => intro n n' s h; simp [tkGo] at h
  | succ r ih =>
    intro n n' s h
    simp only [tkGo] at h
    split at h
    · rename_i h1
      split at h
      · cases h
        refine ⟨by omega, by omega, ?_⟩
        rw [List.getD_eq_getElem?_getD]
        cases hh : (ord ls)[off ls (n + 1) + (acc B a (n + 1) - base ls (n + 1)).toNat]? with
        | none => exact .inr rfl
        | some x => exact .inl (List.mem_of_getElem? hh)
      · have := ih h; exact ⟨by omega, this.2.1, this.2.2⟩
    · cases h
theorem sym_ok {ls B : List Int} {a a' : Nat} {s : Int} (hE : newE ls = 0) (h0 : 0 < ls.length) (h : sym ls B a = .ok (s, a')) : 0 ≤ s ∧ s < ls.length ∧ a < a' ∧ a' ≤ 8 * B.length := by
  unfold sym at h
  split at h
  · rename_i n s' hs
    cases h
    obtain ⟨h1, h2, h3⟩ := tkGo_hit hs
    have : 0 ≤ s ∧ s < ls.length := by
      rcases h3 with h3 | rfl
      · obtain ⟨k1, k2, _⟩ := (ord_mem (newE_vl hE).1).1 h3
        omega
      · omega
    omega
  · cases h
  · cases h
theorem rep_good {B l : List Int} {s x n : Int} {a a' : Nat} (ha : a ≤ 8 * B.length) (h : rep B s l a = .ok (x, n, a')) : 1 ≤ n ∧ n < 200 ∧ a ≤ a' ∧ a' ≤ 8 * B.length := by
  unfold rep at h
  split at h
  · cases h; omega
  split at h
  · cases h
  split at h
  · cases h
  cases h
  have hb := numL_bound B a (rpB s)
  have : rpL s + numL B a (rpB s) < 200 ∧ 1 ≤ rpL s := by
    unfold rpL
    unfold rpB at hb ⊢
    by_cases h1 : s = 16
    · rw [if_pos h1] at hb ⊢; rw [if_neg (by omega)]; omega
    · by_cases h2 : s = 17
      · rw [if_neg h1, if_pos h2] at hb ⊢; rw [if_neg (by omega)]; omega
      · rw [if_neg h1, if_neg h2] at hb ⊢; split <;> omega
  omega
section
variable {B c l l' : List Int} {tot f a a' : Nat} {e s x n : Int}
theorem lnGo_end (h : tot ≤ l.length) : lnGo B c tot f l a = .ok (l, a) := by
  cases f with
  | zero => rfl
  | succ f => simp only [lnGo]; rw [if_neg (by omega)]
theorem lnGo_err (h : l.length < tot) (hf : tot ≤ f + l.length) (k : lnStep B c l a = .error e) : lnGo B c tot f l a = .error e := by
  obtain ⟨f, rfl⟩ : ∃ g, f = g + 1 := ⟨f - 1, by omega⟩
  simp only [lnGo]; rw [if_pos h, k]
theorem lnGo_next (h : l.length < tot) (hf : tot ≤ f + l.length) (k : lnStep B c l a = .ok (l', a')) (hl : l'.length ≤ tot) : lnGo B c tot f l a = lnGo B c tot (f - 1) l' a' := by
  obtain ⟨f, rfl⟩ : ∃ g, f = g + 1 := ⟨f - 1, by omega⟩
  simp only [lnGo]; rw [if_pos h, k]; simp only; rw [if_pos hl]; rfl
theorem lnGo_big (h : l.length < tot) (hf : tot ≤ f + l.length) (k : lnStep B c l a = .ok (l', a')) (hl : ¬ l'.length ≤ tot) : lnGo B c tot f l a = .error 4 := by
  obtain ⟨f, rfl⟩ : ∃ g, f = g + 1 := ⟨f - 1, by omega⟩
  simp only [lnGo]; rw [if_pos h, k]; simp only; rw [if_neg hl]
theorem lnStep_1 (h : sym c B a = .error e) : lnStep B c l a = .error e := by unfold lnStep; rw [h]
theorem lnStep_2 (h : sym c B a = .ok (s, a')) (k : rep B s l a' = .error e) : lnStep B c l a = .error e := by unfold lnStep; rw [h]; simp only; rw [k]
theorem lnStep_3 {a'' : Nat} (h : sym c B a = .ok (s, a')) (k : rep B s l a' = .ok (x, n, a'')) : lnStep B c l a = .ok (l ++ List.replicate n.toNat x, a'') := by unfold lnStep; rw [h]; simp only; rw [k]
end
theorem ln_or (B c l : List Int) (a : Nat) : (∃ e, sym c B a = .error e) ∨ (∃ s a' e, sym c B a = .ok (s, a') ∧ rep B s l a' = .error e) ∨ (∃ s a' x n a'', sym c B a = .ok (s, a') ∧ rep B s l a' = .ok (x, n, a'')) := by
  rcases ex_or (sym c B a) with ⟨e, h⟩ | ⟨⟨s, a'⟩, h⟩
  · exact .inl ⟨e, h⟩
  · rcases ex_or (rep B s l a') with ⟨e, k⟩ | ⟨⟨x, n, a''⟩, k⟩
    · exact .inr (.inl ⟨s, a', e, h, k⟩)
    · exact .inr (.inr ⟨s, a', x, n, a'', h, k⟩)
def toldC (B : List Int) (a : Nat) : List Int := frs B (a + 14) (hC B a)
def toldN (B : List Int) (a : Nat) : Nat := hL B a + hD B a
def toldA (B : List Int) (a : Nat) : Nat := a + 14 + 3 * hC B a
section
variable {B l : List Int} {a a' : Nat} {e : Int}
theorem told_1 (h : 8 * B.length < a + 14) : told B a = .error 2 := if_pos h
theorem told_2 (h : a + 14 ≤ 8 * B.length) (k : ¬ (hL B a ≤ 286 ∧ hD B a ≤ 30)) : told B a = .error 4 := by
  unfold told; rw [if_neg (by omega), if_pos k]
theorem told_3 (h : a + 14 ≤ 8 * B.length) (k : hL B a ≤ 286 ∧ hD B a ≤ 30) (x : 8 * B.length < toldA B a) : told B a = .error 2 := by
  unfold told; rw [if_neg (by omega), if_neg (fun h => h k)]; exact if_pos x
theorem told_4 (h : a + 14 ≤ 8 * B.length) (k : hL B a ≤ 286 ∧ hD B a ≤ 30) (x : toldA B a ≤ 8 * B.length) (y : newE (toldC B a) ≠ 0) : told B a = .error 4 := by
  unfold told; rw [if_neg (by omega), if_neg (fun h => h k), if_neg (by unfold toldA at x; omega)]; exact if_pos y
theorem told_go (h : a + 14 ≤ 8 * B.length) (k : hL B a ≤ 286 ∧ hD B a ≤ 30) (x : toldA B a ≤ 8 * B.length) (y : newE (toldC B a) = 0) : told B a = (match lnGo B (toldC B a) (toldN B a) (toldN B a) [] (toldA B a) with
    | .error e => .error e
    | .ok (l, a') => if newE (l.take (hL B a)) ≠ 0 ∨ newE (l.drop (hL B a)) ≠ 0 ∨ l.getD 256 0 = 0 then .error 4 else .ok (a', l.take (hL B a), l.drop (hL B a))) := by
  unfold told; rw [if_neg (by omega), if_neg (fun h => h k), if_neg (by unfold toldA at x; omega)]; exact if_neg (fun h => h y)
theorem told_5 (h : a + 14 ≤ 8 * B.length) (k : hL B a ≤ 286 ∧ hD B a ≤ 30) (x : toldA B a ≤ 8 * B.length) (y : newE (toldC B a) = 0) (z : lnGo B (toldC B a) (toldN B a) (toldN B a) [] (toldA B a) = .error e) : told B a = .error e := by
  rw [told_go h k x y, z]
theorem told_6 (h : a + 14 ≤ 8 * B.length) (k : hL B a ≤ 286 ∧ hD B a ≤ 30) (x : toldA B a ≤ 8 * B.length) (y : newE (toldC B a) = 0) (z : lnGo B (toldC B a) (toldN B a) (toldN B a) [] (toldA B a) = .ok (l, a')) (q : newE (l.take (hL B a)) ≠ 0 ∨ newE (l.drop (hL B a)) ≠ 0 ∨ l.getD 256 0 = 0) : told B a = .error 4 := by
  rw [told_go h k x y, z]; exact if_pos q
theorem told_7 (h : a + 14 ≤ 8 * B.length) (k : hL B a ≤ 286 ∧ hD B a ≤ 30) (x : toldA B a ≤ 8 * B.length) (y : newE (toldC B a) = 0) (z : lnGo B (toldC B a) (toldN B a) (toldN B a) [] (toldA B a) = .ok (l, a')) (q1 : newE (l.take (hL B a)) = 0) (q2 : newE (l.drop (hL B a)) = 0) (q3 : l.getD 256 0 ≠ 0) : told B a = .ok (a', l.take (hL B a), l.drop (hL B a)) := by
  rw [told_go h k x y, z]; exact if_neg (fun h => by rcases h with h | h | h; exact h q1; exact h q2; exact q3 h)
end
theorem toldC_len (B : List Int) (a : Nat) : (toldC B a).length = 19 := frs_len _ _ _
theorem fixT_at {k : Nat} (h : k < 4) : (fixT.getD k (0, 0)).2 = ((fixT.getD k (0, 0)).2.toNat : Int) ∧ (fixT.getD k (0, 0)).2.toNat < 200 := by
  have : ∀ k, k < 4 → (fixT.getD k (0, 0)).2 = ((fixT.getD k (0, 0)).2.toNat : Int) ∧ (fixT.getD k (0, 0)).2.toNat < 200 := by decide
  exact this k h
/-- What is in a code isn't below nothing. -/
theorem code_nn {ls : List Int} (hE : newE ls = 0) (i : Nat) : 0 ≤ ls.getD i 0 := by
  have hV := (newE_vl hE).1
  rw [List.getD_eq_getElem?_getD]
  cases h : ls[i]? with
  | none => exact Int.le_refl _
  | some x => exact (hV.2 x (List.mem_of_getElem? h)).1
theorem getD_take {l : List Int} {n i : Nat} (h : i < n) : (l.take n).getD i 0 = l.getD i 0 := by
  simp [List.getD_eq_getElem?_getD, List.getElem?_take, h]
end Go.InfP

/-
  The fixed codes, row by row.
-/
namespace Go.InfP
open Go.BitP
set_option linter.unusedVariables false
theorem fixK_succ (k : Nat) : fixK (k + 1) = fixK k ++ List.replicate (fixT.getD k (0, 0)).2.toNat (fixT.getD k (0, 0)).1 := rfl
theorem fixT_g {k : Nat} (h : k < 4) : 0 ≤ (fixT.getD k (0, 0)).2 ∧ (fixT.getD k (0, 0)).2 < 200 := by have := fixT_at h; omega
theorem frs_zero (B : List Int) (a : Nat) : frs B a 0 = List.replicate 19 0 := rfl
theorem frs_succ (B : List Int) (a k : Nat) : frs B a (k + 1) = (frs B a k).set (ordr.getD k 0).toNat (numL B (a + 3 * k) 3) := rfl
theorem room3 (n a : Nat) : 8 * n < a + 5 ∨ (a + 5 ≤ 8 * n ∧ 8 * n < a + 10) ∨ (a + 10 ≤ 8 * n ∧ 8 * n < a + 14) ∨ a + 14 ≤ 8 * n := by omega
theorem or3 (p q : Prop) : (p ∧ q) ∨ (p ∧ ¬ q) ∨ ¬ p := by
  rcases Classical.em p with h | h
  · rcases Classical.em q with k | k
    · exact .inl ⟨h, k⟩
    · exact .inr (.inl ⟨h, k⟩)
  · exact .inr (.inr h)
theorem toldN_eq (B : List Int) (a : Nat) : toldN B a = hL B a + hD B a := rfl
theorem toldA_eq (B : List Int) (a : Nat) : toldA B a = a + 14 + 3 * hC B a := rfl
theorem toldC_eq (B : List Int) (a : Nat) : toldC B a = frs B (a + 14) (hC B a) := rfl
end Go.InfP
namespace Go.InfP
theorem or3b (p q r : Prop) : (p ∧ q ∧ r) ∨ (p ∧ q ∧ ¬ r) ∨ (p ∧ ¬ q) ∨ ¬ p := by
  rcases Classical.em p with h | h
  · rcases Classical.em q with k | k
    · rcases Classical.em r with m | m
      · exact .inl ⟨h, k, m⟩
      · exact .inr (.inl ⟨h, k, m⟩)
    · exact .inr (.inr (.inl ⟨h, k⟩))
  · exact .inr (.inr (.inr h))
end Go.InfP

/-
  A block's beginning, a symbol's length, how far back: step by step.
-/
namespace Go.InfP
set_option linter.unusedVariables false
open Go.BitP Go.HuffP
set_option linter.unusedVariables false
set_option linter.unusedSimpArgs false
def lenE (B : List Int) (s : Int) (a : Nat) : Except Int (Int × Nat) := if 29 ≤ s then .error 4 else if 8 * B.length < a + lnM s then .error 2 else .ok (lnB s + numL B a (lnM s), a + lnM s)
def awayE (B ds : List Int) (a : Nat) : Except Int (Int × Nat) := match sym ds B a with
  | .error e => .error e
  | .ok (d, a3) => if 30 ≤ d then .error 4 else if 8 * B.length < a3 + dsM d then .error 2 else .ok (dsB d + numL B a3 (dsM d), a3 + dsM d)
theorem numL_zero (B : List Int) (a : Nat) : numL B a 0 = 0 := rfl
section
variable {B : List Int} {s : Int} {a : Nat}
theorem len_no (h : 29 ≤ s) : lenE B s a = .error 4 := if_pos h
def lnK (s : Int) : Nat := (s / 4 - 1).toNat
def dsK (s : Int) : Nat := (s / 2 - 1).toNat
theorem lnM_few (h : s < 8 ∨ s = 28) : lnM s = 0 := if_pos h
theorem lnM_k (h : 8 ≤ s) (h2 : s < 28) : lnM s = lnK s := if_neg (by omega)
theorem lnB_few (h : s < 8) : lnB s = 3 + s := if_pos h
theorem lnB_top (h : s = 28) : lnB s = 258 := by unfold lnB; rw [if_neg (by omega)]; exact if_pos h
theorem lnB_k (h : 8 ≤ s) (h2 : s < 28) : lnB s = 3 + (4 + s % 4) * 2 ^ lnK s := by unfold lnB; rw [if_neg (by omega), if_neg (by omega)]; rfl
theorem dsM_few (h : s < 4) : dsM s = 0 := if_pos h
theorem dsM_k (h : 4 ≤ s) : dsM s = dsK s := if_neg (by omega)
theorem dsB_few (h : s < 4) : dsB s = 1 + s := if_pos h
theorem dsB_k (h : 4 ≤ s) : dsB s = 1 + (2 + s % 2) * 2 ^ dsK s := if_neg (by omega)
theorem len_few (h0 : 0 ≤ s) (h : s < 8) (ha : a ≤ 8 * B.length) : lenE B s a = .ok (3 + s, a) := by
  unfold lenE
  rw [if_neg (by omega), lnM_few (.inl h), lnB_few h, numL_zero, Int.add_zero]; exact if_neg (by omega)
theorem len_top (h : s = 28) (ha : a ≤ 8 * B.length) : lenE B s a = .ok (258, a) := by
  unfold lenE
  rw [if_neg (by omega), lnM_few (.inr h), lnB_top h, numL_zero, Int.add_zero]; exact if_neg (by omega)
theorem len_short (h : 8 ≤ s) (h2 : s < 28) (hx : 8 * B.length < a + lnK s) : lenE B s a = .error 2 := by
  unfold lenE
  rw [if_neg (by omega), lnM_k h h2]; exact if_pos hx
theorem len_ok (h : 8 ≤ s) (h2 : s < 28) (hx : a + lnK s ≤ 8 * B.length) : lenE B s a = .ok (3 + (4 + s % 4) * 2 ^ lnK s + numL B a (lnK s), a + lnK s) := by
  unfold lenE
  rw [if_neg (by omega), lnM_k h h2, lnB_k h h2]; exact if_neg (by omega)
theorem lnK_le (h : 8 ≤ s) (h2 : s < 28) : s / 4 - 1 = (lnK s : Int) ∧ lnK s ≤ 5 ∧ 1 ≤ lnK s := by unfold lnK; omega
theorem dsK_le (h : 4 ≤ s) (h2 : s < 30) : s / 2 - 1 = (dsK s : Int) ∧ dsK s ≤ 13 ∧ 1 ≤ dsK s := by unfold dsK; omega
end
section
variable {B ds : List Int} {s e : Int} {a a3 : Nat}
theorem away_e (h : sym ds B a = .error e) : awayE B ds a = .error e := by unfold awayE; rw [h]
theorem away_no (h : sym ds B a = .ok (s, a3)) (k : 30 ≤ s) : awayE B ds a = .error 4 := by unfold awayE; rw [h]; exact if_pos k
theorem away_few (h : sym ds B a = .ok (s, a3)) (h0 : 0 ≤ s) (k : s < 4) (ha : a3 ≤ 8 * B.length) : awayE B ds a = .ok (1 + s, a3) := by
  unfold awayE; rw [h]; simp only; rw [if_neg (by omega), dsM_few k, dsB_few k, numL_zero, Int.add_zero]; exact if_neg (by omega)
theorem away_short (h : sym ds B a = .ok (s, a3)) (h1 : 4 ≤ s) (h2 : s < 30) (hx : 8 * B.length < a3 + dsK s) : awayE B ds a = .error 2 := by
  unfold awayE; rw [h]; simp only; rw [if_neg (by omega), dsM_k h1]; exact if_pos hx
theorem away_ok (h : sym ds B a = .ok (s, a3)) (h1 : 4 ≤ s) (h2 : s < 30) (hx : a3 + dsK s ≤ 8 * B.length) : awayE B ds a = .ok (1 + (2 + s % 2) * 2 ^ dsK s + numL B a3 (dsK s), a3 + dsK s) := by
  unfold awayE; rw [h]; simp only; rw [if_neg (by omega), dsM_k h1, dsB_k h1]; exact if_neg (by omega)
end
theorem shl_small {x : Int} {n : Nat} (h0 : 0 ≤ x) (h1 : x < 8) (hn : n ≤ 13) {d : Int} (hd : d = (n : Int)) : IntKind.i64.wrap (x * 2 ^ (min d.toNat IntKind.i64.bits)) = x * 2 ^ n ∧ 0 ≤ x * 2 ^ n ∧ x * 2 ^ n < 65536 := by
  have e : min d.toNat IntKind.i64.bits = n := by
    have : IntKind.i64.bits = 64 := rfl
    omega
  have hp : (2 : Int) ^ n ≤ 2 ^ 13 := by
    have := Nat.pow_le_pow_right (n := 2) (by decide) hn
    have e2 : ((2 : Int) ^ n) = ((2 ^ n : Nat) : Int) := by simp
    rw [e2]; exact_mod_cast this
  have h2 : (0 : Int) < 2 ^ n := Int.pow_pos (by decide)
  have h3 : 0 ≤ x * 2 ^ n := Int.mul_nonneg h0 (Int.le_of_lt h2)
  have h4 : x * 2 ^ n ≤ 7 * 2 ^ 13 := Int.le_trans (Int.mul_le_mul_of_nonneg_right (show x ≤ 7 by omega) (Int.le_of_lt h2)) (Int.mul_le_mul_of_nonneg_left hp (by decide))
  rw [e]
  exact ⟨Sl.wrapI (by omega) (by omega), h3, by omega⟩
theorem xor16 {x y : Int} (hx : 0 ≤ x ∧ x < 65536) (hy : 0 ≤ y ∧ y < 65536) : (IntKind.i64.wrap ((BitVec.ofInt IntKind.i64.bits x ^^^ BitVec.ofInt IntKind.i64.bits y).toNat : Int) = 65535) ↔ x = 65535 - y := by
  obtain ⟨a, rfl⟩ : ∃ a : Nat, x = (a : Int) := ⟨x.toNat, by omega⟩
  obtain ⟨b, rfl⟩ : ∃ b : Nat, y = (b : Int) := ⟨y.toNat, by omega⟩
  have e : IntKind.i64.bits = 64 := rfl
  have ha : a < 2 ^ 16 := by omega
  have hb : b < 2 ^ 16 := by omega
  have hlt : a ^^^ b < 2 ^ 16 := Nat.xor_lt_two_pow ha hb
  rw [e, BitVec.toNat_xor, ofInt_nat, ofInt_nat, Nat.mod_eq_of_lt (by omega), Nat.mod_eq_of_lt (by omega), Sl.wrapI (by omega) (by omega)]
  have hc : b ^^^ 65535 = 65535 - b := by
    have h1 : (BitVec.ofNat 16 b ^^^ BitVec.allOnes 16) = ~~~ (BitVec.ofNat 16 b) := BitVec.xor_allOnes
    have h2 := congrArg BitVec.toNat h1
    rw [BitVec.toNat_xor, BitVec.toNat_not, BitVec.toNat_ofNat, BitVec.toNat_allOnes, Nat.mod_eq_of_lt hb] at h2
    exact h2
  constructor
  · intro h
    have h' : a ^^^ b = 65535 := by omega
    have : a = 65535 ^^^ b := by rw [← h', Nat.xor_assoc, Nat.xor_self, Nat.xor_zero]
    rw [Nat.xor_comm, hc] at this
    omega
  · intro h
    have h' : a = 65535 - b := by omega
    rw [h', ← hc, Nat.xor_comm b, Nat.xor_assoc, Nat.xor_self, Nat.xor_zero]
    rfl
section
variable {B : List Int} {s : St} {e : Int}
theorem beg_1 (h : 8 * B.length < s.at_ + 3) : begin_ B s = .error 2 := if_pos h
theorem beg_0s (h : s.at_ + 3 ≤ 8 * B.length) (k : numL B (s.at_ + 1) 2 = 0) (hx : 8 * B.length < alg (s.at_ + 3) + 32) : begin_ B s = .error 2 := by
  unfold begin_; rw [if_neg (by omega), if_pos k]; exact if_pos hx
theorem beg_0n (h : s.at_ + 3 ≤ 8 * B.length) (k : numL B (s.at_ + 1) 2 = 0) (hx : alg (s.at_ + 3) + 32 ≤ 8 * B.length) (hm : numL B (alg (s.at_ + 3)) 16 ≠ 65535 - numL B (alg (s.at_ + 3) + 16) 16) : begin_ B s = .error 4 := by
  unfold begin_; rw [if_neg (by omega), if_pos k, if_neg (by omega)]; exact if_neg hm
theorem beg_0y (h : s.at_ + 3 ≤ 8 * B.length) (k : numL B (s.at_ + 1) 2 = 0) (hx : alg (s.at_ + 3) + 32 ≤ 8 * B.length) (hm : numL B (alg (s.at_ + 3)) 16 = 65535 - numL B (alg (s.at_ + 3) + 16) 16) : begin_ B s = .ok { s with at_ := alg (s.at_ + 3) + 32, kind := 0, left := (numL B (alg (s.at_ + 3)) 16).toNat, last := decide (numL B s.at_ 1 = 1) } := by
  unfold begin_; rw [if_neg (by omega), if_pos k, if_neg (by omega)]; exact if_pos hm
theorem beg_f (h : s.at_ + 3 ≤ 8 * B.length) (k : numL B (s.at_ + 1) 2 = 1) : begin_ B s = .ok { s with at_ := s.at_ + 3, kind := 1, last := decide (numL B s.at_ 1 = 1), lits := fixL, dist := fixD } := by
  unfold begin_; rw [if_neg (by omega), if_neg (by omega)]; exact if_pos k
theorem beg_dn (h : s.at_ + 3 ≤ 8 * B.length) (k : numL B (s.at_ + 1) 2 = 2) (t : told B (s.at_ + 3) = .error e) : begin_ B s = .error e := by
  unfold begin_; rw [if_neg (by omega), if_neg (by omega), if_neg (by omega), if_pos k, t]
theorem beg_dy {a : Nat} {l d : List Int} (h : s.at_ + 3 ≤ 8 * B.length) (k : numL B (s.at_ + 1) 2 = 2) (t : told B (s.at_ + 3) = .ok (a, l, d)) : begin_ B s = .ok { s with at_ := a, kind := 2, last := decide (numL B s.at_ 1 = 1), lits := l, dist := d } := by
  unfold begin_; rw [if_neg (by omega), if_neg (by omega), if_neg (by omega), if_pos k, t]
theorem beg_no (h : s.at_ + 3 ≤ 8 * B.length) (k : numL B (s.at_ + 1) 2 ≠ 0) (k1 : numL B (s.at_ + 1) 2 ≠ 1) (k2 : numL B (s.at_ + 1) 2 ≠ 2) : begin_ B s = .error 4 := by
  unfold begin_; rw [if_neg (by omega), if_neg k, if_neg k1]; exact if_neg k2
end
section
variable {B : List Int} {most : Int} {s : St} {y n f e : Int} {a a2 a3 : Nat}
theorem cod_e (h : sym s.lits B s.at_ = .error e) : coded B most s = .error e := by unfold coded; rw [h]
theorem cod_put (h : sym s.lits B s.at_ = .ok (y, a)) (k : y < 256) : coded B most s = put_ most { s with at_ := a } y := by unfold coded; rw [h]; exact if_pos k
theorem cod_end (h : sym s.lits B s.at_ = .ok (y, a)) (k : y = 256) : coded B most s = .ok { s with at_ := a, kind := -1, ended := s.last } := by unfold coded; rw [h]; simp only; rw [if_neg (by omega)]; exact if_pos k
theorem cod_go (h : sym s.lits B s.at_ = .ok (y, a)) (k : 256 < y) : coded B most s = (match lenE B (y - 257) a with
    | .error e => .error e
    | .ok (n, a2) => match awayE B s.dist a2 with
      | .error e => .error e
      | .ok (f, a3) => if f ≤ s.out.length then .ok { s with at_ := a3, copies := n.toNat, far := f.toNat } else .error 4) := by
  unfold coded lenE; rw [h]; simp only
  rw [if_neg (by omega), if_neg (by omega)]
  by_cases h1 : 286 ≤ y
  · rw [if_pos h1, if_pos (show 29 ≤ y - 257 by omega)]
  · rw [if_neg h1, if_neg (show ¬ 29 ≤ y - 257 by omega)]
    by_cases h2 : 8 * B.length < a + lnM (y - 257)
    · rw [if_pos h2, if_pos h2]
    · rw [if_neg h2, if_neg h2]
      unfold awayE
      simp only
      cases hs : sym s.dist B (a + lnM (y - 257)) with
      | error e => rfl
      | ok q =>
        obtain ⟨d, a3⟩ := q
        simp only
        by_cases h3 : 30 ≤ d
        · rw [if_pos h3, if_pos h3]
        · rw [if_neg h3, if_neg h3]
          by_cases h4 : 8 * B.length < a3 + dsM d
          · rw [if_pos h4, if_pos h4]
          · rw [if_neg h4, if_neg h4]
theorem cod_l (h : sym s.lits B s.at_ = .ok (y, a)) (k : 256 < y) (l : lenE B (y - 257) a = .error e) : coded B most s = .error e := by rw [cod_go h k, l]
theorem cod_a (h : sym s.lits B s.at_ = .ok (y, a)) (k : 256 < y) (l : lenE B (y - 257) a = .ok (n, a2)) (w : awayE B s.dist a2 = .error e) : coded B most s = .error e := by rw [cod_go h k, l]; simp only; rw [w]
theorem cod_n (h : sym s.lits B s.at_ = .ok (y, a)) (k : 256 < y) (l : lenE B (y - 257) a = .ok (n, a2)) (w : awayE B s.dist a2 = .ok (f, a3)) (q : ¬ f ≤ s.out.length) : coded B most s = .error 4 := by rw [cod_go h k, l]; simp only; rw [w]; exact if_neg q
theorem cod_y (h : sym s.lits B s.at_ = .ok (y, a)) (k : 256 < y) (l : lenE B (y - 257) a = .ok (n, a2)) (w : awayE B s.dist a2 = .ok (f, a3)) (q : f ≤ s.out.length) : coded B most s = .ok { s with at_ := a3, copies := n.toNat, far := f.toNat } := by rw [cod_go h k, l]; simp only; rw [w]; exact if_pos q
end
/-- What comes of a length, of a distance: good ones. -/
theorem lenE_good {B : List Int} {s n : Int} {a a2 : Nat} (h0 : 0 ≤ s) (ha : a ≤ 8 * B.length) (h : lenE B s a = .ok (n, a2)) : 3 ≤ n ∧ n < 400 ∧ a ≤ a2 ∧ a2 ≤ 8 * B.length := by
  by_cases h1 : s < 8
  · rw [len_few h0 h1 ha] at h; cases h; omega
  by_cases h2 : 29 ≤ s
  · rw [len_no h2] at h; cases h
  by_cases h3 : s = 28
  · rw [len_top h3 ha] at h; cases h; omega
  by_cases h4 : a + lnK s ≤ 8 * B.length
  · rw [len_ok (by omega) (by omega) h4] at h; cases h
    obtain ⟨k1, k2, k3⟩ := lnK_le (s := s) (by omega) (by omega)
    have hb := numL_bound B a (lnK s)
    have : lnK s = 1 ∨ lnK s = 2 ∨ lnK s = 3 ∨ lnK s = 4 ∨ lnK s = 5 := by omega
    rcases this with e | e | e | e | e <;> rw [e] at hb ⊢ <;> omega
  · rw [len_short (by omega) (by omega) (by omega)] at h; cases h
theorem awayE_good {B ds : List Int} {n : Int} {a a3 : Nat} (hE : newE ds = 0) (hd : 0 < ds.length) (h : awayE B ds a = .ok (n, a3)) : 1 ≤ n ∧ n < 100000 ∧ a ≤ a3 ∧ a3 ≤ 8 * B.length := by
  cases hs : sym ds B a with
  | error e => rw [away_e hs] at h; cases h
  | ok q =>
    obtain ⟨s, b⟩ := q
    have hg := sym_ok hE hd hs
    by_cases h2 : 30 ≤ s
    · rw [away_no hs h2] at h; cases h
    by_cases h1 : s < 4
    · rw [away_few hs hg.1 h1 hg.2.2.2] at h; cases h; omega
    by_cases h4 : b + dsK s ≤ 8 * B.length
    · rw [away_ok hs (by omega) (by omega) h4] at h; cases h
      obtain ⟨k1, k2, k3⟩ := dsK_le (s := s) (by omega) (by omega)
      have hb := numL_bound B b (dsK s)
      obtain ⟨_, m1, m2⟩ := shl_small (x := 2 + s % 2) (n := dsK s) (by omega) (by omega) (by omega) rfl
      have hp : (2 : Int) ^ dsK s ≤ 2 ^ 13 := by
        have := Nat.pow_le_pow_right (n := 2) (by decide) k2
        have e2 : ((2 : Int) ^ dsK s) = ((2 ^ dsK s : Nat) : Int) := by simp
        rw [e2]; exact_mod_cast this
      omega
    · rw [away_short hs (by omega) (by omega) (by omega)] at h; cases h
end Go.InfP
namespace Go.InfP
open Go.BitP Go.HuffP
set_option linter.unusedVariables false
theorem len_or {B : List Int} {s : Int} {a : Nat} (h0 : 0 ≤ s) (ha : a ≤ 8 * B.length) : (∃ e, lenE B s a = .error e) ∨ ∃ n a2 : Nat, lenE B s a = .ok ((n : Int), a2) ∧ 3 ≤ n ∧ n < 400 ∧ a ≤ a2 ∧ a2 ≤ 8 * B.length := by
  rcases ex_or (lenE B s a) with h | ⟨⟨n, a2⟩, h⟩
  · exact .inl h
  · have hg := lenE_good h0 ha h
    refine .inr ⟨n.toNat, a2, ?_, by omega, by omega, hg.2.2.1, hg.2.2.2⟩
    rw [h, Int.toNat_of_nonneg (by omega)]
theorem away_or {B ds : List Int} {a : Nat} (hE : newE ds = 0) (hd : 0 < ds.length) : (∃ e, awayE B ds a = .error e) ∨ ∃ f a2 : Nat, awayE B ds a = .ok ((f : Int), a2) ∧ 1 ≤ f ∧ f < 100000 ∧ a ≤ a2 ∧ a2 ≤ 8 * B.length := by
  rcases ex_or (awayE B ds a) with h | ⟨⟨n, a2⟩, h⟩
  · exact .inl h
  · have hg := awayE_good hE hd h
    refine .inr ⟨n.toNat, a2, ?_, by omega, by omega, hg.2.2.1, hg.2.2.2⟩
    rw [h, Int.toNat_of_nonneg (by omega)]
theorem sym_or {B ls : List Int} {a : Nat} (hE : newE ls = 0) (hd : 0 < ls.length) : (∃ e, sym ls B a = .error e) ∨ ∃ (y : Int) (a2 : Nat), sym ls B a = .ok (y, a2) ∧ 0 ≤ y ∧ y < ls.length ∧ a < a2 ∧ a2 ≤ 8 * B.length := by
  rcases ex_or (sym ls B a) with h | ⟨⟨y, a2⟩, h⟩
  · exact .inl h
  · exact .inr ⟨y, a2, h, sym_ok hE hd h⟩
/-- What is known of the machine. -/
structure Ok (B : List Int) (mo : Int) (s : St) : Prop where
  at_ : s.at_ ≤ 8 * B.length
  room : (s.out.length : Int) ≤ mo
  byt : Byt s.out
  kind : s.kind = -1 ∨ s.kind = 0 ∨ s.kind = 1 ∨ s.kind = 2
  left : s.left < 65536
  codes : 0 < s.kind → newE s.lits = 0 ∧ newE s.dist = 0 ∧ 0 < s.lits.length ∧ 0 < s.dist.length
  copies : s.copies < 400
  far : 0 < s.copies → 1 ≤ s.far ∧ s.far ≤ s.out.length
theorem told_good {B l d : List Int} {a a' : Nat} (h : told B a = .ok (a', l, d)) : newE l = 0 ∧ newE d = 0 ∧ 0 < l.length ∧ 0 < d.length ∧ a < a' ∧ a' ≤ 8 * B.length := by
  by_cases h1 : 8 * B.length < a + 14
  · rw [told_1 h1] at h; cases h
  by_cases h2' : ¬ (hL B a ≤ 286 ∧ hD B a ≤ 30)
  · rw [told_2 (by omega) h2'] at h; cases h
  have h2 := Classical.not_not.1 h2'
  by_cases h3 : 8 * B.length < toldA B a
  · rw [told_3 (by omega) h2 h3] at h; cases h
  by_cases h4' : newE (toldC B a) ≠ 0
  · rw [told_4 (by omega) h2 (by omega) h4'] at h; cases h
  have h4 := Classical.not_not.1 h4'
  cases h5 : lnGo B (toldC B a) (toldN B a) (toldN B a) [] (toldA B a) with
  | error e => rw [told_5 (by omega) h2 (by omega) h4 h5] at h; cases h
  | ok q =>
    obtain ⟨ls, a2⟩ := q
    by_cases h6 : newE (ls.take (hL B a)) ≠ 0 ∨ newE (ls.drop (hL B a)) ≠ 0 ∨ ls.getD 256 0 = 0
    · rw [told_6 (by omega) h2 (by omega) h4 h5 h6] at h; cases h
    · have h7 : newE (ls.take (hL B a)) = 0 := by
        rcases Classical.em (newE (ls.take (hL B a)) = 0) with k | k
        · exact k
        · exact (h6 (.inl k)).elim
      have h8 : newE (ls.drop (hL B a)) = 0 := by
        rcases Classical.em (newE (ls.drop (hL B a)) = 0) with k | k
        · exact k
        · exact (h6 (.inr (.inl k))).elim
      have h9 : ls.getD 256 0 ≠ 0 := fun k => h6 (.inr (.inr k))
      rw [told_7 (by omega) h2 (by omega) h4 h5 h7 h8 h9] at h
      cases h
      have key : ∀ (f : Nat) (l : List Int) (x : Nat), toldN B a ≤ f + l.length → l.length ≤ toldN B a → x ≤ 8 * B.length → lnGo B (toldC B a) (toldN B a) f l x = .ok (ls, a') → ls.length = toldN B a ∧ x ≤ a' ∧ a' ≤ 8 * B.length := by
        intro f
        induction f with
        | zero => intro l x k1 k2 k3 k4; rw [lnGo_end (by omega)] at k4; cases k4; exact ⟨by omega, Nat.le_refl _, k3⟩
        | succ f ih =>
          intro l x k1 k2 k3 k4
          by_cases hl : toldN B a ≤ l.length
          · rw [lnGo_end hl] at k4; cases k4; exact ⟨by omega, Nat.le_refl _, k3⟩
          · rcases ln_or B (toldC B a) l x with ⟨e, hs⟩ | ⟨sy, x2, e, hs, hr⟩ | ⟨sy, x2, v, n, x3, hs, hr⟩
            · rw [lnGo_err (by omega) k1 (lnStep_1 hs)] at k4; cases k4
            · rw [lnGo_err (by omega) k1 (lnStep_2 hs hr)] at k4; cases k4
            · have hsg := sym_ok h4 (by rw [toldC_len]; omega) hs
              have hrg := rep_good hsg.2.2.2 hr
              by_cases hb : (l ++ List.replicate n.toNat v).length ≤ toldN B a
              · rw [lnGo_next (by omega) k1 (lnStep_3 hs hr) hb] at k4
                have := ih _ _ (by rw [List.length_append, List.length_replicate]; omega) hb hrg.2.2.2 k4
                exact ⟨this.1, by omega, this.2.2⟩
              · rw [lnGo_big (by omega) k1 (lnStep_3 hs hr) hb] at k4; cases k4
      have hA := toldA_eq B a
      have := key _ [] _ (Nat.le_add_right _ _) (Nat.zero_le _) (show toldA B a ≤ 8 * B.length by omega) h5
      have hN := toldN_eq B a
      have hd := hd_eqs B a
      have hn2 := numL_bound B (a + 5) 5
      refine ⟨h7, h8, ?_, ?_, by omega, this.2.2⟩
      · rw [List.length_take]; omega
      · rw [List.length_drop]
        have : 1 ≤ hD B a := by omega
        omega
end Go.InfP
namespace Go.InfP
open Go.BitP Go.HuffP
set_option linter.unusedVariables false
theorem code_len {ls : List Int} (h : newE ls = 0) : ls.length ≤ 320 := (newE_vl h).1.1
theorem alg_eq (a : Nat) : alg a = (a + 7) / 8 * 8 := rfl
theorem room2 (n a : Nat) : 8 * n < a + 16 ∨ (a + 16 ≤ 8 * n ∧ 8 * n < a + 32) ∨ a + 32 ≤ 8 * n := by omega
end Go.InfP

/-
  One step, case by case; what is known stays known, and something gets less.
-/
namespace Go.InfP
set_option linter.unusedVariables false
open Go.BitP Go.HuffP
set_option linter.unusedVariables false
set_option linter.unusedSimpArgs false
section
variable {B : List Int} {mo y e : Int} {s s2 : St} {at_ : Nat}
theorem put_ok (h : put_ mo s y = .ok s2) : (s.out.length : Int) < mo ∧ s2 = { s with out := s.out ++ [y] } := by
  unfold put_ at h
  split at h
  · cases h; rename_i k; exact ⟨k, rfl⟩
  · cases h
theorem put_yes (h : (s.out.length : Int) < mo) : put_ mo s y = .ok { s with out := s.out ++ [y] } := if_pos h
theorem put_no (h : ¬ (s.out.length : Int) < mo) : put_ mo s y = .error 6 := if_neg h
theorem put_er (h : put_ mo { s with at_ := at_ } y = .error e) : put_ mo s y = .error e := by
  by_cases k : (s.out.length : Int) < mo
  · rw [put_yes (s := { s with at_ := at_ }) k] at h; cases h
  · rw [put_no (s := { s with at_ := at_ }) k] at h; rw [put_no k]; exact h
theorem put_or (B : List Int) (a : Nat) (mo : Int) (s : St) (y : Int) : 8 * B.length < a + 8 ∨ (a + 8 ≤ 8 * B.length ∧ ∃ e, put_ mo s y = .error e) ∨ (a + 8 ≤ 8 * B.length ∧ ∃ s2, put_ mo s y = .ok s2) := by
  rcases Nat.lt_or_ge (8 * B.length) (a + 8) with h | h
  · exact .inl h
  · rcases ex_or (put_ mo s y) with k | k
    · exact .inr (.inl ⟨h, k⟩)
    · exact .inr (.inr ⟨h, k⟩)
theorem one_cy (h : 0 < s.copies) (k : (s.out.length : Int) < mo) : one B mo s = .ok { s with copies := s.copies - 1, out := s.out ++ [s.out.getD (s.out.length - s.far) 0] } := by
  unfold one; rw [if_pos h]; exact put_yes k
theorem one_ce (h : 0 < s.copies) (k : put_ mo s (s.out.getD (s.out.length - s.far) 0) = .error e) : one B mo s = .error e := by
  unfold one; rw [if_pos h]
  by_cases q : (s.out.length : Int) < mo
  · rw [put_yes q] at k; cases k
  · rw [put_no q] at k; rw [← k]; exact put_no q
theorem one_b (h : ¬ 0 < s.copies) (k : s.kind = -1) : one B mo s = begin_ B s := by unfold one; rw [if_neg h, if_pos k]
theorem one_c (h : ¬ 0 < s.copies) (k : ¬ s.kind = -1) (k0 : s.kind ≠ 0) : one B mo s = coded B mo s := by unfold one; rw [if_neg h, if_neg k, if_pos k0]
theorem one_l0 (h : ¬ 0 < s.copies) (k : ¬ s.kind = -1) (k0 : s.kind = 0) (l : s.left = 0) : one B mo s = .ok { s with kind := -1, ended := s.last } := by unfold one; rw [if_neg h, if_neg k, if_neg (by omega), if_pos l]
theorem one_ls (h : ¬ 0 < s.copies) (k : ¬ s.kind = -1) (k0 : s.kind = 0) (l : ¬ s.left = 0) (x : 8 * B.length < s.at_ + 8) : one B mo s = .error 2 := by unfold one; rw [if_neg h, if_neg k, if_neg (by omega), if_neg l, if_pos x]
theorem one_lp (h : ¬ 0 < s.copies) (k : ¬ s.kind = -1) (k0 : s.kind = 0) (l : ¬ s.left = 0) (x : s.at_ + 8 ≤ 8 * B.length) : one B mo s = put_ mo { s with at_ := s.at_ + 8, left := s.left - 1 } (numL B s.at_ 8) := by unfold one; rw [if_neg h, if_neg k, if_neg (by omega), if_neg l, if_neg (by omega)]
theorem one_le (h : ¬ 0 < s.copies) (k : ¬ s.kind = -1) (k0 : s.kind = 0) (l : ¬ s.left = 0) (x : s.at_ + 8 ≤ 8 * B.length) (p : put_ mo { s with at_ := s.at_ + 8 } (numL B s.at_ 8) = .error e) : one B mo s = .error e := by
  rw [one_lp h k k0 l x]
  by_cases q : (s.out.length : Int) < mo
  · rw [put_yes (s := { s with at_ := s.at_ + 8 }) q] at p; cases p
  · rw [put_no (s := { s with at_ := s.at_ + 8 }) q] at p; rw [← p]; exact put_no q
theorem one_ly (h : ¬ 0 < s.copies) (k : ¬ s.kind = -1) (k0 : s.kind = 0) (l : ¬ s.left = 0) (x : s.at_ + 8 ≤ 8 * B.length) (q : (s.out.length : Int) < mo) : one B mo s = .ok { s with at_ := s.at_ + 8, left := s.left - 1, out := s.out ++ [numL B s.at_ 8] } := by
  rw [one_lp h k k0 l x]; exact put_yes q
end
end Go.InfP

/-
  What is known of the machine stays known; something gets less; slices of its way.
-/
namespace Go.InfP
set_option linter.unusedVariables false
open Go.BitP Go.HuffP
set_option linter.unusedVariables false
set_option linter.unusedSimpArgs false
theorem fixL_len : fixL.length = 288 := by decide +kernel
theorem fixD_len : fixD.length = 32 := by decide +kernel
def mu (B : List Int) (s : St) : Nat := (8 * B.length - s.at_) * 1000 + s.copies + (if s.kind = -1 then 0 else 1)
theorem mu_no {B : List Int} {s : St} (h : s.kind = -1) : mu B s = (8 * B.length - s.at_) * 1000 + s.copies := by unfold mu; rw [if_pos h, Nat.add_zero]
theorem mu_yes {B : List Int} {s : St} (h : ¬ s.kind = -1) : mu B s = (8 * B.length - s.at_) * 1000 + s.copies + 1 := by unfold mu; rw [if_neg h]
theorem mu_le (B : List Int) (s : St) : mu B s ≤ (8 * B.length - s.at_) * 1000 + s.copies + 1 := by unfold mu; split <;> omega
theorem byt_app {l : List Int} {y : Int} (h : Byt l) (hy : 0 ≤ y ∧ y < 256) : Byt (l ++ [y]) := by
  intro x hx
  rcases List.mem_append.1 hx with hx | hx
  · exact h x hx
  · rw [List.mem_singleton.1 hx]; exact hy
/-- What a step leaves. -/
structure Good (B : List Int) (mo : Int) (s s2 : St) : Prop where
  ok : Ok B mo s2
  less : mu B s2 < mu B s
  le : s.out.length ≤ s2.out.length
  one : s2.out.length ≤ s.out.length + 1
theorem put_good {B : List Int} {mo : Int} {s s1 s2 : St} {y : Int} (hy : 0 ≤ y ∧ y < 256) (h : put_ mo s1 y = .ok s2) (ho : s1.out = s.out) (hok : Ok B mo s1) (hl : mu B s1 < mu B s) (hf : s1.copies = 0 ∨ True) : Good B mo s s2 := by
  obtain ⟨k, rfl⟩ := put_ok h
  refine ⟨⟨hok.at_, by simp; omega, byt_app hok.byt hy, hok.kind, hok.left, hok.codes, hok.copies, fun h => ?_⟩, hl, by simp [ho], by simp [ho]⟩
  have := hok.far h
  simp; omega
theorem one_good {B : List Int} {mo : Int} {s s2 : St} (hB : Byt B) (hok : Ok B mo s) (h : one B mo s = .ok s2) : Good B mo s s2 := by
  obtain ⟨q1, q2, q3, q4, q5, q6, q7, q8⟩ := hok
  by_cases hc : 0 < s.copies
  · have he : put_ mo { s with copies := s.copies - 1 } (s.out.getD (s.out.length - s.far) 0) = .ok s2 := by unfold one at h; rw [if_pos hc] at h; exact h
    refine put_good (q3.get _) he rfl ⟨q1, q2, q3, q4, q5, q6, by show s.copies - 1 < 400; omega, fun _ => q8 hc⟩ ?_ (.inr trivial)
    show (8 * B.length - s.at_) * 1000 + (s.copies - 1) + (if s.kind = -1 then 0 else 1) < (8 * B.length - s.at_) * 1000 + s.copies + (if s.kind = -1 then 0 else 1)
    omega
  by_cases hk : s.kind = -1
  · rw [one_b hc hk] at h
    by_cases h1 : 8 * B.length < s.at_ + 3
    · rw [beg_1 h1] at h; cases h
    have hx1 : s.at_ + 3 ≤ 8 * B.length := by omega
    have hm := mu_no (B := B) hk
    by_cases k0 : numL B (s.at_ + 1) 2 = 0
    · by_cases hx : 8 * B.length < alg (s.at_ + 3) + 32
      · rw [beg_0s hx1 k0 hx] at h; cases h
      · by_cases hn : numL B (alg (s.at_ + 3)) 16 = 65535 - numL B (alg (s.at_ + 3) + 16) 16
        · rw [beg_0y hx1 k0 (by omega) hn] at h; cases h
          have hb := numL_bound B (alg (s.at_ + 3)) 16
          have ha := alg_eq (s.at_ + 3)
          refine ⟨⟨by show alg (s.at_ + 3) + 32 ≤ _; omega, q2, q3, .inr (.inl rfl), by show (numL B (alg (s.at_ + 3)) 16).toNat < 65536; omega, fun h => absurd h (by show ¬ (0 : Int) < 0; omega), q7, q8⟩, ?_, Nat.le_refl _, Nat.le_succ _⟩
          refine Nat.lt_of_le_of_lt (mu_le B _) ?_
          rw [hm]
          show (8 * B.length - (alg (s.at_ + 3) + 32)) * 1000 + s.copies + 1 < _
          omega
        · rw [beg_0n hx1 k0 (by omega) hn] at h; cases h
    · by_cases k1 : numL B (s.at_ + 1) 2 = 1
      · rw [beg_f hx1 k1] at h; cases h
        refine ⟨⟨hx1, q2, q3, .inr (.inr (.inl rfl)), q5, fun _ => ⟨fixL_ok, fixD_ok, by show 0 < fixL.length; rw [fixL_len]; decide, by show 0 < fixD.length; rw [fixD_len]; decide⟩, q7, q8⟩, ?_, Nat.le_refl _, Nat.le_succ _⟩
        refine Nat.lt_of_le_of_lt (mu_le B _) ?_
        rw [hm]
        show (8 * B.length - (s.at_ + 3)) * 1000 + s.copies + 1 < _
        omega
      · by_cases k2 : numL B (s.at_ + 1) 2 = 2
        · rcases ex_or (told B (s.at_ + 3)) with ⟨e, ht⟩ | ⟨⟨a, l, d⟩, ht⟩
          · rw [beg_dn hx1 k2 ht] at h; cases h
          · rw [beg_dy hx1 k2 ht] at h; cases h
            obtain ⟨t1, t2, t3, t4, t5, t6⟩ := told_good ht
            refine ⟨⟨t6, q2, q3, .inr (.inr (.inr rfl)), q5, fun _ => ⟨t1, t2, t3, t4⟩, q7, q8⟩, ?_, Nat.le_refl _, Nat.le_succ _⟩
            refine Nat.lt_of_le_of_lt (mu_le B _) ?_
            rw [hm]
            show (8 * B.length - a) * 1000 + s.copies + 1 < _
            omega
        · rw [beg_no hx1 k0 k1 k2] at h; cases h
  have hm := mu_yes (B := B) hk
  by_cases hk0 : s.kind = 0
  · by_cases hl : s.left = 0
    · rw [one_l0 hc hk hk0 hl] at h; cases h
      refine ⟨⟨q1, q2, q3, .inl rfl, q5, fun h => absurd h (by show ¬ (0 : Int) < -1; omega), q7, q8⟩, ?_, Nat.le_refl _, Nat.le_succ _⟩
      rw [hm, mu_no rfl]
      show (8 * B.length - s.at_) * 1000 + s.copies < _
      omega
    · by_cases hx : 8 * B.length < s.at_ + 8
      · rw [one_ls hc hk hk0 hl hx] at h; cases h
      · rw [one_lp hc hk hk0 hl (by omega)] at h
        have hb := numL_bound B s.at_ 8
        refine put_good (by omega) h rfl ⟨by show s.at_ + 8 ≤ _; omega, q2, q3, q4, by show s.left - 1 < 65536; omega, q6, q7, q8⟩ ?_ (.inr trivial)
        refine Nat.lt_of_le_of_lt (mu_le B _) ?_
        rw [hm]
        show (8 * B.length - (s.at_ + 8)) * 1000 + s.copies + 1 < _
        omega
  · rw [one_c hc hk hk0] at h
    have hkp : 0 < s.kind := by omega
    obtain ⟨e1, e2, z1, z2⟩ := q6 hkp
    rcases sym_or (B := B) (a := s.at_) e1 z1 with ⟨e, hs⟩ | ⟨y, a1, hs, y0, y1, a0, ha1⟩
    · rw [cod_e hs] at h; cases h
    by_cases hy : y < 256
    · rw [cod_put hs hy] at h
      refine put_good (by omega) h rfl ⟨ha1, q2, q3, q4, q5, q6, q7, q8⟩ ?_ (.inr trivial)
      refine Nat.lt_of_le_of_lt (mu_le B _) ?_
      rw [hm]
      show (8 * B.length - a1) * 1000 + s.copies + 1 < _
      omega
    by_cases hy2 : y = 256
    · rw [cod_end hs hy2] at h; cases h
      refine ⟨⟨ha1, q2, q3, .inl rfl, q5, fun h => absurd h (by show ¬ (0 : Int) < -1; omega), q7, q8⟩, ?_, Nat.le_refl _, Nat.le_succ _⟩
      refine Nat.lt_of_le_of_lt (mu_le B _) ?_
      rw [hm]
      show (8 * B.length - a1) * 1000 + s.copies + 1 < _
      omega
    rcases len_or (B := B) (s := y - 257) (a := a1) (by omega) ha1 with ⟨e, hn⟩ | ⟨n, a2, hn, n0, n1, n2, n3⟩
    · rw [cod_l hs (by omega) hn] at h; cases h
    rcases away_or (B := B) (a := a2) e2 z2 with ⟨e, hf⟩ | ⟨f, a3, hf, f0, f1, f2, f3⟩
    · rw [cod_a hs (by omega) hn hf] at h; cases h
    by_cases hfo : f ≤ s.out.length
    · rw [cod_y hs (by omega) hn hf (by omega)] at h; cases h
      refine ⟨⟨f3, q2, q3, q4, q5, q6, by show ((n : Int)).toNat < 400; omega, fun _ => by show 1 ≤ ((f : Int)).toNat ∧ ((f : Int)).toNat ≤ s.out.length; omega⟩, ?_, Nat.le_refl _, Nat.le_succ _⟩
      refine Nat.lt_of_le_of_lt (mu_le B _) ?_
      rw [hm]
      show (8 * B.length - a3) * 1000 + ((n : Int)).toNat + 1 < _
      omega
    · rw [cod_n hs (by omega) hn hf (by omega)] at h; cases h
/-- A slice of the way: till it is at its end, or so many bytes more are out. -/
inductive Lp (B : List Int) (mo : Int) (w : Nat) (n : Int) : St → Except Int St → Prop
  | stop {s : St} : (s.ended = true ∨ n ≤ (s.out.length : Int) - w) → Lp B mo w n s (.ok s)
  | step {s s' : St} {o : Except Int St} : s.ended = false → (s.out.length : Int) - w < n → one B mo s = .ok s' → Lp B mo w n s' o → Lp B mo w n s o
  | fail {s : St} {e : Int} : s.ended = false → (s.out.length : Int) - w < n → one B mo s = .error e → Lp B mo w n s (.error e)
theorem lp_ex {B : List Int} {mo : Int} (hB : Byt B) (w : Nat) (n : Int) : ∀ (k : Nat) {s : St}, mu B s ≤ k → Ok B mo s → ∃ o, Lp B mo w n s o := by
  intro k
  induction k with
  | zero =>
    intro s hk hok
    by_cases h1 : s.ended = true
    · exact ⟨_, .stop (.inl h1)⟩
    by_cases h2 : n ≤ (s.out.length : Int) - w
    · exact ⟨_, .stop (.inr h2)⟩
    rcases ex_or (one B mo s) with ⟨e, h⟩ | ⟨s2, h⟩
    · exact ⟨_, .fail (by simpa using h1) (by omega) h⟩
    · have := (one_good hB hok h).less; omega
  | succ k ih =>
    intro s hk hok
    by_cases h1 : s.ended = true
    · exact ⟨_, .stop (.inl h1)⟩
    by_cases h2 : n ≤ (s.out.length : Int) - w
    · exact ⟨_, .stop (.inr h2)⟩
    rcases ex_or (one B mo s) with ⟨e, h⟩ | ⟨s2, h⟩
    · exact ⟨_, .fail (by simpa using h1) (by omega) h⟩
    · have hg := one_good hB hok h
      have := hg.less
      obtain ⟨o, ho⟩ := ih (show mu B s2 ≤ k by omega) hg.ok
      exact ⟨o, .step (by simpa using h1) (by omega) h ho⟩
/-- What a slice leaves. -/
theorem lp_good {B : List Int} {mo : Int} {w : Nat} {n : Int} {s : St} {o : Except Int St} (hB : Byt B) (h : Lp B mo w n s o) : Ok B mo s → (∀ s2, o = .ok s2 → Ok B mo s2 ∧ mu B s2 ≤ mu B s ∧ Goes B mo s s2 ∧ (s2.ended = true ∨ n ≤ (s2.out.length : Int) - w) ∧ (s.ended = false → (s.out.length : Int) - w < n → mu B s2 < mu B s) ∧ s.out.length ≤ s2.out.length) ∧ (∀ e, o = .error e → Runs B mo s (.error e)) := by
  induction h with
  | stop h => intro hok; exact ⟨fun s2 e => by cases e; exact ⟨hok, Nat.le_refl _, .refl _ _ _, h, fun h1 h2 => by rcases h with h | h; (rw [h1] at h; cases h); omega, Nat.le_refl _⟩, fun e h => by cases h⟩
  | step h1 h2 h3 h4 ih =>
    intro hok
    have hg := one_good hB hok h3
    have hl := hg.less
    have hle := hg.le
    obtain ⟨k1, k2⟩ := ih hg.ok
    refine ⟨fun s2 e => ?_, fun e h => .step h1 h3 (k2 e h)⟩
    obtain ⟨m1, m2, m3, m4, m5, m6⟩ := k1 s2 e
    exact ⟨m1, by omega, (Goes.one h1 h3).trans m3, m4, fun _ _ => by omega, by omega⟩
  | fail h1 h2 h3 => intro hok; exact ⟨fun s2 e => (by cases e), fun e h => by cases h; exact .fail h1 h3⟩
/-! ### A machine, whether it broke or not -/
abbrev Jt := Except Int St
def endJ : Jt → Bool
  | .ok s => s.ended
  | .error _ => true
def outJ : Jt → List Int
  | .ok s => if s.ended = true then s.out else []
  | .error _ => []
def errJ : Jt → Int
  | .ok _ => 0
  | .error e => e
def usedJ : Jt → Int
  | .ok s => if s.ended = true then ((s.at_ + 7) / 8 : Nat) else 0
  | .error _ => 0
def OkJ (B : List Int) (mo : Int) : Jt → Prop
  | .ok s => Ok B mo s
  | .error e => e ≠ 0
def StepJ (B : List Int) (mo n : Int) (r r' : Jt) : Prop := ((n < 1 ∨ endJ r = true) ∧ r' = r) ∨ (1 ≤ n ∧ ∃ s, r = .ok s ∧ s.ended = false ∧ Lp B mo s.out.length n s r')
/-- Where it stands, of what it comes to. -/
def AtJ (B : List Int) (mo : Int) (s0 : St) : Jt → Prop
  | .ok s => Goes B mo s0 s
  | .error e => Runs B mo s0 (.error e)
/-- What it comes to, as it is told. -/
def Ou : Oc → List Int × Int × Int
  | .ok (x, n) => (x, (n : Int), 0)
  | .error e => ([], 0, e)
theorem start_ok {B : List Int} {mo : Int} (h : 0 ≤ mo) : Ok B mo start := ⟨Nat.zero_le _, by show ((0 : Nat) : Int) ≤ mo; omega, fun x hx => (by cases hx), .inl rfl, by decide, fun h => absurd h (by decide), by decide, fun h => absurd h (by decide)⟩
end Go.InfP
namespace Go.InfP
set_option linter.unusedVariables false
section
variable {B : List Int} {mo n e : Int} {w : Nat} {s s2 : St} {o : Except Int St}
theorem lp_at (h : Lp B mo w n s o) (k : s.ended = true ∨ n ≤ (s.out.length : Int) - w) : o = .ok s := by
  cases h with
  | stop _ => rfl
  | step h1 h2 => exfalso; rcases k with k | k; (rw [h1] at k; cases k); omega
  | fail h1 h2 => exfalso; rcases k with k | k; (rw [h1] at k; cases k); omega
theorem lp_go (h : Lp B mo w n s o) (k1 : s.ended = false) (k2 : (s.out.length : Int) - w < n) (p : one B mo s = .ok s2) : Lp B mo w n s2 o := by
  cases h with
  | stop h => exfalso; rcases h with k | k; (rw [k1] at k; cases k); omega
  | step _ _ h3 h4 => rw [h3] at p; cases p; exact h4
  | fail _ _ h3 => rw [h3] at p; cases p
theorem lp_er (h : Lp B mo w n s o) (k1 : s.ended = false) (k2 : (s.out.length : Int) - w < n) (p : one B mo s = .error e) : o = .error e := by
  cases h with
  | stop h => exfalso; rcases h with k | k; (rw [k1] at k; cases k); omega
  | step _ _ h3 h4 => rw [h3] at p; cases p
  | fail _ _ h3 => rw [h3] at p; cases p; rfl
end
end Go.InfP

/-
  A machine's way as a whole; what it comes to.
-/
namespace Go.InfP
set_option linter.unusedVariables false
open Go.BitP Go.HuffP
set_option linter.unusedVariables false
set_option linter.unusedSimpArgs false
section
variable {B : List Int} {mo e : Int}
theorem sym_nz {ls : List Int} {a : Nat} (h : sym ls B a = .error e) : e ≠ 0 := by
  unfold sym at h; split at h <;> cases h <;> decide
theorem rep_nz {l : List Int} {s : Int} {a : Nat} (h : rep B s l a = .error e) : e ≠ 0 := by
  unfold rep at h
  split at h
  · cases h
  split at h
  · cases h; decide
  split at h
  · cases h; decide
  · cases h
theorem lnGo_nz {c : List Int} {tot : Nat} : ∀ {f : Nat} {l : List Int} {a : Nat}, lnGo B c tot f l a = .error e → e ≠ 0 := by
  intro f
  induction f with
  | zero => intro l a h; cases h
  | succ f ih =>
    intro l a h
    simp only [lnGo] at h
    split at h
    · rcases ln_or B c l a with ⟨e2, hs⟩ | ⟨sy, x2, e2, hs, hr⟩ | ⟨sy, x2, v, n, x3, hs, hr⟩
      · rw [lnStep_1 hs] at h; cases h; exact sym_nz hs
      · rw [lnStep_2 hs hr] at h; cases h; exact rep_nz hr
      · rw [lnStep_3 hs hr] at h
        simp only at h
        split at h
        · exact ih h
        · cases h; decide
    · cases h
theorem told_nz {a : Nat} (h : told B a = .error e) : e ≠ 0 := by
  unfold told at h
  split at h
  · cases h; decide
  split at h
  · cases h; decide
  split at h
  · cases h; decide
  split at h
  · cases h; decide
  split at h
  · rename_i e2 h2; cases h; exact lnGo_nz h2
  · split at h
    · cases h; decide
    · cases h
theorem put_nz {s : St} {y : Int} (h : put_ mo s y = .error e) : e ≠ 0 := by
  unfold put_ at h; split at h <;> cases h; decide
theorem len_nz {s : Int} {a : Nat} (h : lenE B s a = .error e) : e ≠ 0 := by
  unfold lenE at h
  split at h
  · cases h; decide
  split at h
  · cases h; decide
  · cases h
theorem away_nz {ds : List Int} {a : Nat} (h : awayE B ds a = .error e) : e ≠ 0 := by
  unfold awayE at h
  split at h
  · rename_i e2 h2; cases h; exact sym_nz h2
  · split at h
    · cases h; decide
    split at h
    · cases h; decide
    · cases h
theorem begin_nz {s : St} (h : begin_ B s = .error e) : e ≠ 0 := by
  unfold begin_ at h
  split at h
  · cases h; decide
  split at h
  · split at h
    · cases h; decide
    split at h
    · cases h
    · cases h; decide
  split at h
  · cases h
  split at h
  · split at h
    · rename_i e2 h2; cases h; exact told_nz h2
    · cases h
  · cases h; decide
theorem coded_nz {s : St} (h : coded B mo s = .error e) : e ≠ 0 := by
  rcases ex_or (sym s.lits B s.at_) with ⟨e2, hs⟩ | ⟨⟨y, a⟩, hs⟩
  · rw [cod_e hs] at h; cases h; exact sym_nz hs
  by_cases h1 : y < 256
  · rw [cod_put hs h1] at h; exact put_nz h
  by_cases h2 : y = 256
  · rw [cod_end hs h2] at h; cases h
  rcases ex_or (lenE B (y - 257) a) with ⟨e2, hn⟩ | ⟨⟨n, a2⟩, hn⟩
  · rw [cod_l hs (by omega) hn] at h; cases h; exact len_nz hn
  rcases ex_or (awayE B s.dist a2) with ⟨e2, hf⟩ | ⟨⟨f, a3⟩, hf⟩
  · rw [cod_a hs (by omega) hn hf] at h; cases h; exact away_nz hf
  by_cases h3 : f ≤ s.out.length
  · rw [cod_y hs (by omega) hn hf h3] at h; cases h
  · rw [cod_n hs (by omega) hn hf h3] at h; cases h; decide
theorem one_nz {s : St} (h : one B mo s = .error e) : e ≠ 0 := by
  unfold one at h
  split at h
  · exact put_nz h
  split at h
  · exact begin_nz h
  split at h
  · exact coded_nz h
  split at h
  · cases h
  split at h
  · cases h; decide
  · exact put_nz h
theorem lp_nz {s : St} {w : Nat} {n : Int} {o : Jt} (h : Lp B mo w n s o) : o = .error e → e ≠ 0 := by
  induction h with
  | stop _ => intro h; cases h
  | step _ _ _ _ ih => exact ih
  | fail _ _ h => intro q; cases q; exact one_nz h
end
def muJ (B : List Int) : Jt → Nat
  | .ok s => mu B s + 1
  | .error _ => 0
def lenJ : Jt → Nat
  | .ok s => s.out.length
  | .error _ => 0
theorem stepJ_ex {B : List Int} {mo : Int} {r : Jt} (hB : Byt B) (hok : OkJ B mo r) (n : Int) : ∃ r', StepJ B mo n r r' := by
  by_cases hn : n < 1
  · exact ⟨r, .inl ⟨.inl hn, rfl⟩⟩
  cases r with
  | error e => exact ⟨_, .inl ⟨.inr rfl, rfl⟩⟩
  | ok s =>
    cases he : s.ended with
    | true => exact ⟨_, .inl ⟨.inr he, rfl⟩⟩
    | false =>
      obtain ⟨o, ho⟩ := lp_ex hB s.out.length n _ (Nat.le_refl _) hok
      exact ⟨o, .inr ⟨by omega, s, rfl, he, ho⟩⟩
/-- What a slice leaves, broken or not. -/
structure GoodJ (B : List Int) (mo : Int) (s0 : St) (n : Int) (r r' : Jt) : Prop where
  ok : OkJ B mo r'
  at_ : AtJ B mo s0 r'
  le : muJ B r' ≤ muJ B r
  less : endJ r = false → 1 ≤ n → muJ B r' < muJ B r
  out : endJ r = false → 1 ≤ n → endJ r' = true ∨ lenJ r + 1 ≤ lenJ r'
  stay : (n < 1 ∨ endJ r = true) → r' = r
theorem stepJ_good {B : List Int} {mo n : Int} {s0 : St} {r r' : Jt} (hB : Byt B) (hok : OkJ B mo r) (hat : AtJ B mo s0 r) (h : StepJ B mo n r r') : GoodJ B mo s0 n r r' := by
  rcases h with ⟨hx, rfl⟩ | ⟨hn, s, rfl, he, hl⟩
  · refine ⟨hok, hat, Nat.le_refl _, fun h1 h2 => ?_, fun h1 h2 => ?_, fun _ => rfl⟩ <;> (exfalso; rcases hx with hx | hx; omega; rw [h1] at hx; cases hx)
  · obtain ⟨k1, k2⟩ := lp_good hB hl hok
    cases r' with
    | ok s2 =>
      obtain ⟨m1, m2, m3, m4, m5, m6⟩ := k1 s2 rfl
      have := m5 he (by omega)
      refine ⟨m1, hat.trans m3, by show mu B s2 + 1 ≤ mu B s + 1; omega, fun _ _ => by show mu B s2 + 1 < mu B s + 1; omega, fun _ _ => ?_, fun hx => ?_⟩
      · rcases m4 with m4 | m4
        · exact .inl m4
        · right; show s.out.length + 1 ≤ s2.out.length; omega
      · exfalso; rcases hx with hx | hx
        · omega
        · rw [show endJ (.ok s) = s.ended from rfl, he] at hx; cases hx
    | error e =>
      refine ⟨lp_nz hl rfl, hat _ (k2 e rfl), Nat.zero_le _, fun _ _ => Nat.succ_pos _, fun _ _ => .inl rfl, fun hx => ?_⟩
      exfalso; rcases hx with hx | hx
      · omega
      · rw [show endJ (.ok s) = s.ended from rfl, he] at hx; cases hx
/-- What is told at the end. -/
def Res (B : List Int) (mo : Int) (q : List Int × Int × Int) : Prop := (mo < 0 ∧ q = ([], 0, 1)) ∨ (0 ≤ mo ∧ ∃ o, Runs B mo start o ∧ q = Ou o)
theorem Res.det {B : List Int} {mo : Int} {q q' : List Int × Int × Int} (h : Res B mo q) (h' : Res B mo q') : q = q' := by
  rcases h with ⟨a, rfl⟩ | ⟨a, o, r, rfl⟩ <;> rcases h' with ⟨a', rfl⟩ | ⟨a', o', r', rfl⟩
  · rfl
  · omega
  · omega
  · rw [r.det r']
theorem atJ_end {B : List Int} {mo : Int} {r : Jt} (hm : 0 ≤ mo) (h : AtJ B mo start r) (he : endJ r = true) : Res B mo (outJ r, usedJ r, errJ r) := by
  refine .inr ⟨hm, ?_⟩
  cases r with
  | ok s => exact ⟨.ok (s.out, (s.at_ + 7) / 8), h _ (.done he), by simp only [outJ, usedJ, errJ, Ou]; rw [if_pos (show s.ended = true from he), if_pos (show s.ended = true from he)]⟩
  | error e => exact ⟨.error e, h, rfl⟩
end Go.InfP
namespace Go.InfP
open Go.BitP Go.HuffP
set_option linter.unusedVariables false
/-- A machine as it is made. -/
def newJ (mo : Int) : Jt := if mo < 0 then .error 1 else .ok start
/-- Where a machine may stand. -/
structure Way (B : List Int) (mo : Int) (r : Jt) : Prop where
  ok : OkJ B mo r
  at_ : (0 ≤ mo ∧ AtJ B mo start r) ∨ (mo < 0 ∧ r = .error 1)
structure WayS (B : List Int) (mo n : Int) (r r' : Jt) : Prop where
  way : Way B mo r'
  out : endJ r = false → 1 ≤ n → endJ r' = true ∨ lenJ r + 1 ≤ lenJ r'
  stay : (n < 1 ∨ endJ r = true) → r' = r
end Go.InfP
namespace Go.InfP
open Go.BitP Go.HuffP
set_option linter.unusedVariables false
end Go.InfP
