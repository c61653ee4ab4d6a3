/-
  Floats as weights, part 2: a weight lies between its quantum and the next one.
-/
import Derived.Test.YtpkemaglokbfiaaFairFloat
namespace Go.FairP
open Go.Sl Ieee
set_option linter.unusedVariables false
theorem Wt.mulL {x : Nat} (h : Wt x) : double.mul sixteen x = some (x + 18014398509481984) := by
  rw [← h.mul]
  unfold Format.mul
  rw [h.read, read_sixteen]
  show some (double.nearest (false ^^ false) (4503599627370496 * sig x) (-48 + (((x / 4503599627370496 : Nat) : Int) - 1075))) = some (double.nearest (false ^^ false) (sig x * 4503599627370496) ((((x / 4503599627370496 : Nat) : Int) - 1075) + -48))
  rw [Nat.mul_comm, Int.add_comm]
theorem Wt.shf_le {x : Nat} (h : Wt x) : 42 ≤ shf x ∧ shf x ≤ 52 ∧ (((x / 4503599627370496 : Nat) : Int) - 1071) = -(shf x : Int) := by
  obtain ⟨h1, h2, h3⟩ := h.field
  unfold shf
  omega
theorem Wt.quan_pow {x : Nat} (h : Wt x) : 2 ^ (52 - shf x) ≤ quan x ∧ quan x < 2 ^ (53 - shf x) := by
  obtain ⟨h1, h2, _⟩ := h.shf_le
  have hs := sig_lt x
  have hpos : 0 < 2 ^ shf x := Nat.two_pow_pos _
  have e1 : 2 ^ (52 - shf x) * 2 ^ shf x = 4503599627370496 := by rw [← Nat.pow_add, show 52 - shf x + shf x = 52 by omega]
  have e2 : 2 ^ (53 - shf x) * 2 ^ shf x = 9007199254740992 := by rw [← Nat.pow_add, show 53 - shf x + shf x = 53 by omega]
  unfold quan
  exact ⟨(Nat.le_div_iff_mul_le hpos).2 (by rw [e1]; exact hs.1), (Nat.div_lt_iff_lt_mul hpos).2 (by rw [e2]; exact hs.2)⟩
theorem Wt.quan_log {x : Nat} (h : Wt x) : (quan x).log2 = 52 - shf x := by
  obtain ⟨h1, h2⟩ := h.quan_pow
  obtain ⟨h3, h4, _⟩ := h.shf_le
  have := h.qb
  rw [Nat.log2_eq_iff (by omega)]
  exact ⟨h1, by rw [show 52 - shf x + 1 = 53 - shf x by omega]; exact h2⟩
theorem Wt.below {x : Nat} (h : Wt x) : double.order (double.write (.number false (quan x) 0)) (x + 18014398509481984) = some .lt ∨ double.order (double.write (.number false (quan x) 0)) (x + 18014398509481984) = some .eq := by
  have hq := h.qb
  obtain ⟨h3, h4, h5⟩ := h.shf_le
  have hr := (FairP.whole (q := quan x) hq.1 (by omega)).2.2
  unfold Format.order
  rw [hr, h.read16, h.quan_log, h5, order_pos]
  have e0 : (((52 - shf x : Nat) : Int) - 52) = -(shf x : Int) := by omega
  rw [e0, Int.min_self, Int.sub_self]
  have e1 : 52 - (52 - shf x) = shf x := by omega
  rw [e1]
  simp only [Int.toNat_zero, Nat.pow_zero, Nat.mul_one]
  have h6 : quan x * 2 ^ shf x ≤ sig x := Nat.div_mul_le_self _ _
  rcases Nat.lt_or_ge (quan x * 2 ^ shf x) (sig x) with h7 | h7
  · exact .inl (by rw [cmp_lt (by omega)])
  · exact .inr (by rw [cmp_eq (by omega)])
theorem Wt.above {x : Nat} (h : Wt x) : double.order (x + 18014398509481984) (double.write (.number false (quan x + 1) 0)) = some .lt := by
  have hq := h.qb
  obtain ⟨h1, h2⟩ := h.quan_pow
  obtain ⟨h3, h4, h5⟩ := h.shf_le
  have hr := (FairP.whole (q := quan x + 1) (by omega) (by omega)).2.2
  have h6 : sig x < (quan x + 1) * 2 ^ shf x := by
    have := Nat.lt_mul_div_succ (sig x) (Nat.two_pow_pos (shf x))
    rw [Nat.mul_comm] at this
    exact this
  unfold Format.order
  rw [hr, h.read16, h5]
  rcases Nat.lt_or_ge (quan x + 1) (2 ^ (53 - shf x)) with h7 | h7
  · have hl : (quan x + 1).log2 = 52 - shf x := by
      rw [Nat.log2_eq_iff (by omega)]
      exact ⟨by omega, by rw [show 52 - shf x + 1 = 53 - shf x by omega]; exact h7⟩
    rw [hl, order_pos]
    have e0 : (((52 - shf x : Nat) : Int) - 52) = -(shf x : Int) := by omega
    rw [e0, Int.min_self, Int.sub_self]
    have e1 : 52 - (52 - shf x) = shf x := by omega
    rw [e1]
    simp only [Int.toNat_zero, Nat.pow_zero, Nat.mul_one]
    rw [cmp_lt (by omega)]
  · have he : quan x + 1 = 2 ^ (53 - shf x) := by omega
    have hl : (quan x + 1).log2 = 53 - shf x := by rw [he, Nat.log2_two_pow]
    rw [hl, order_pos]
    have e0 : (((53 - shf x : Nat) : Int) - 52) = 1 - (shf x : Int) := by omega
    rw [e0]
    have e2 : min (-(shf x : Int)) (1 - (shf x : Int)) = -(shf x : Int) := by omega
    rw [e2, Int.sub_self]
    have e3 : (1 - (shf x : Int) - -(shf x : Int)).toNat = 1 := by omega
    have e1 : 52 - (53 - shf x) = shf x - 1 := by omega
    rw [e3, e1]
    simp only [Int.toNat_zero, Nat.pow_zero, Nat.mul_one, Nat.pow_one]
    have e4 : (quan x + 1) * 2 ^ (shf x - 1) * 2 = (quan x + 1) * 2 ^ shf x := by
      rw [Nat.mul_assoc, ← Nat.pow_succ, show (shf x - 1).succ = shf x by omega]
    rw [cmp_lt (by omega)]
end Go.FairP
