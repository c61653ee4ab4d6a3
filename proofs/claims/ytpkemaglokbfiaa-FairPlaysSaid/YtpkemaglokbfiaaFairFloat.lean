/-
  Floats as weights: which words are weights, and how many sixteenths each has.
-/
import Derived.Test.YtpkemaglokbfiaaFairPlain2
namespace Go.FairP
open Go.Sl Ieee
set_option linter.unusedVariables false
set_option linter.unusedSimpArgs false
abbrev f64 : Format := FloatKind.f64.format
theorem f64_eq : FloatKind.f64.format = double := rfl
theorem sw : double.signWeight = 9223372036854775808 := by decide +kernel
theorem bn : double.binade = 4503599627370496 := by decide +kernel
theorem ir : double.infRung = 9218868437227405312 := by decide +kernel
theorem lp : double.leastPlace = -1074 := by decide +kernel
/-- A number of the middle. -/
theorem read_pos {x : Nat} (h1 : 4503599627370496 ≤ x) (h2 : x < 9218868437227405312) : double.read x = .number false (4503599627370496 + x % 4503599627370496) ((x / 4503599627370496 : Nat) - 1075) := by
  unfold Format.read
  simp only [sw, bn, ir, lp]
  have h3 : x / 9223372036854775808 % 2 == 1 ↔ False := by simp; omega
  have h4 : x % 9223372036854775808 = x := Nat.mod_eq_of_lt (by omega)
  have h5 : (x / 9223372036854775808 % 2 == 1) = false := by simp; omega
  rw [h4, h5, if_neg (by omega), if_pos h2]
  congr 1
  omega
theorem read_sub {x : Nat} (h1 : x < 4503599627370496) : double.read x = .number false x (-1074) := by
  unfold Format.read
  simp only [sw, bn, ir, lp]
  have h4 : x % 9223372036854775808 = x := Nat.mod_eq_of_lt (by omega)
  have h5 : (x / 9223372036854775808 % 2 == 1) = false := by simp; omega
  rw [h4, h5, if_pos h1]
theorem read_inf : double.read 9218868437227405312 = .infinity false := by decide +kernel
theorem read_nan {x : Nat} (h1 : 9218868437227405312 < x) (h2 : x < 9223372036854775808) : ∃ t, double.read x = .nan false t := by
  unfold Format.read
  simp only [sw, bn, ir, lp]
  have h4 : x % 9223372036854775808 = x := Nat.mod_eq_of_lt (by omega)
  have h5 : (x / 9223372036854775808 % 2 == 1) = false := by simp; omega
  rw [h4, h5, if_neg (by omega), if_neg (by omega), if_neg (by omega)]
  exact ⟨_, rfl⟩
theorem read_neg {x : Nat} (h1 : 9223372036854775808 ≤ x) (h2 : x < 18446744073709551616) : (∃ m i, double.read x = .number true m i) ∨ double.read x = .infinity true ∨ ∃ t, double.read x = .nan true t := by
  unfold Format.read
  simp only [sw, bn, ir, lp]
  have h5 : (x / 9223372036854775808 % 2 == 1) = true := by simp; omega
  rw [h5]
  split
  · exact .inl ⟨_, _, rfl⟩
  · split
    · exact .inl ⟨_, _, rfl⟩
    · split
      · exact .inr (.inl rfl)
      · exact .inr (.inr ⟨_, rfl⟩)
theorem read_least : double.read leastB = .number false 4503599627370496 (-56) := by decide +kernel
theorem read_most : double.read mostB = .number false 4503599627370496 (-46) := by decide +kernel
theorem read_sixteen : double.read sixteen = .number false 4503599627370496 (-48) := by decide +kernel
theorem order_pos (m n : Nat) (i j : Int) : Datum.order (.number false m i) (.number false n j) = some (compare ((m * 2 ^ (i - min i j).toNat : Nat) : Int) ((n * 2 ^ (j - min i j).toNat : Nat) : Int)) := by
  simp only [Datum.order, signed, Nat.shiftLeft_eq]
  rfl
theorem cmp_lt {a b : Int} (h : a < b) : compare a b = .lt := by simp [compare, compareOfLessAndEq, h]
theorem cmp_eq {a b : Int} (h : a = b) : compare a b = .eq := by simp [compare, compareOfLessAndEq, h]
theorem cmp_gt {a b : Int} (h : b < a) : compare a b = .gt := by
  simp [compare, compareOfLessAndEq, Int.not_lt.2 (Int.le_of_lt h)]; omega
theorem order_self {d : Datum} (h : d.isNaN = false) : d.order d = some .eq := by
  cases d with
  | number s m i => simp only [Datum.order]; rw [cmp_eq rfl]
  | infinity s => cases s <;> rfl
  | nan s t => cases h
def Wt (x : Nat) : Prop := leastB ≤ x ∧ x ≤ mostB
instance (x : Nat) : Decidable (Wt x) := by unfold Wt; infer_instance
/-- The significand, and what it is divided by. -/
def sig (x : Nat) : Nat := 4503599627370496 + x % 4503599627370496
def shf (x : Nat) : Nat := 1071 - x / 4503599627370496
def quan (x : Nat) : Nat := sig x / 2 ^ shf x
theorem Wt.field {x : Nat} (h : Wt x) : 1019 ≤ x / 4503599627370496 ∧ x / 4503599627370496 ≤ 1029 ∧ (x / 4503599627370496 = 1029 → x % 4503599627370496 = 0) := by
  unfold Wt leastB mostB at h
  refine ⟨by omega, by omega, fun e => by omega⟩
theorem Wt.read {x : Nat} (h : Wt x) : double.read x = .number false (sig x) ((x / 4503599627370496 : Nat) - 1075) := by
  unfold Wt leastB mostB at h
  exact read_pos (by omega) (by omega)
theorem sig_lt (x : Nat) : 4503599627370496 ≤ sig x ∧ sig x < 9007199254740992 := by unfold sig; omega
theorem cut_down {way : Toward} (hw : way = .down ∨ way = .zero) {n k : Nat} (hk : k ≤ n.log2 + 2) : way.cut false n k = n / 2 ^ k := by
  unfold Toward.cut
  rw [Nat.min_eq_left hk, Nat.shiftLeft_eq, Nat.one_mul]
  rcases hw with rfl | rfl <;> simp
theorem sig_log (x : Nat) : (sig x).log2 = 52 := by
  have := sig_lt x
  rw [Nat.log2_eq_iff (by omega)]
  exact ⟨by omega, by omega⟩
theorem nearest_sig {s : Nat} {p : Int} (h1 : 4503599627370496 ≤ s) (h2 : s < 9007199254740992) (hp : -1074 ≤ p + 52) (hq : p + 52 ≤ 900) : double.nearest false (s * 4503599627370496) p = (p + 1126).toNat * 4503599627370496 + s := by
  unfold Format.nearest
  have hm : s * 4503599627370496 ≠ 0 := by omega
  rw [if_neg hm]
  have hlog : (s * 4503599627370496).log2 = 104 := by
    rw [Nat.log2_eq_iff hm]
    exact ⟨by omega, by omega⟩
  have hfb : (double.fractionBits : Int) = 52 := rfl
  have hlast : max (p + ((s * 4503599627370496).log2 : Int) - (double.fractionBits : Int)) double.leastPlace = p + 52 := by
    rw [hlog, lp, hfb]; omega
  rw [hlast]
  have e1 : (p - (p + 52)).toNat = 0 := by omega
  have e2 : (p + 52 - p).toNat = 52 := by omega
  have e3 : (p + 52 - double.leastPlace).toNat = (p + 1126).toNat := by rw [lp]; omega
  have hcut : Toward.even.cut false ((s * 4503599627370496) <<< 0) 52 = s := by
    unfold Toward.cut
    rw [Nat.shiftLeft_zero, hlog, show min 52 (104 + 2) = 52 by decide, show 1 <<< 52 = 4503599627370496 by decide]
    have d1 : s * 4503599627370496 / 4503599627370496 = s := Nat.mul_div_cancel _ (by decide)
    have d2 : s * 4503599627370496 % 4503599627370496 = 0 := Nat.mul_mod_left _ _
    simp only [d1, d2]
    simp
  dsimp only
  rw [e1, e2, e3, bn, ir, hcut]
  unfold Format.word
  rw [if_neg (by decide), Nat.min_eq_left (by omega)]
theorem Wt.mul {x : Nat} (h : Wt x) : double.mul x sixteen = some (x + 18014398509481984) := by
  unfold Format.mul
  rw [h.read, read_sixteen]
  have hs := sig_lt x
  obtain ⟨h1, h2, h3⟩ := h.field
  show some (double.nearest false (sig x * 4503599627370496) (((x / 4503599627370496 : Nat) : Int) - 1075 + -48)) = _
  rw [nearest_sig hs.1 hs.2 (by omega) (by omega)]
  have e : (((x / 4503599627370496 : Nat) : Int) - 1075 + -48 + 1126).toNat * 4503599627370496 + sig x = x + 18014398509481984 := by
    unfold sig
    have e2 : (((x / 4503599627370496 : Nat) : Int) - 1075 + -48 + 1126).toNat = x / 4503599627370496 + 3 := by omega
    rw [e2]
    omega
  rw [e]
theorem Wt.read16 {x : Nat} (h : Wt x) : double.read (x + 18014398509481984) = .number false (sig x) ((x / 4503599627370496 : Nat) - 1071) := by
  have hh := h
  unfold Wt leastB mostB at hh
  rw [read_pos (x := x + 18014398509481984) (by omega) (by omega)]
  have e1 : (x + 18014398509481984) % 4503599627370496 = x % 4503599627370496 := by omega
  have e2 : (((x + 18014398509481984) / 4503599627370496 : Nat) : Int) - 1075 = ((x / 4503599627370496 : Nat) : Int) - 1071 := by omega
  rw [e1, e2]
  rfl
theorem Wt.whole {x : Nat} (h : Wt x) {way : Toward} (hw : way = .down ∨ way = .zero) : (double.read (x + 18014398509481984)).integral way = .number false (quan x) 0 := by
  rw [h.read16]
  obtain ⟨h1, h2, h3⟩ := h.field
  unfold Datum.integral
  simp only []
  have e1 : ((((x / 4503599627370496 : Nat) : Int) - 1071)).toNat = 0 := by omega
  have e2 : (-(((x / 4503599627370496 : Nat) : Int) - 1071)).toNat = shf x := by unfold shf; omega
  rw [e1, e2, Nat.shiftLeft_zero, cut_down hw (by rw [sig_log]; unfold shf; omega)]
  rfl
theorem Wt.qb {x : Nat} (h : Wt x) : 1 ≤ quan x ∧ quan x ≤ 1024 := by
  obtain ⟨h1, h2, h3⟩ := h.field
  have hs := sig_lt x
  unfold quan shf
  have hpos : 0 < 2 ^ (1071 - x / 4503599627370496) := Nat.two_pow_pos _
  constructor
  · rw [Nat.le_div_iff_mul_le hpos, Nat.one_mul]
    refine Nat.le_trans (Nat.pow_le_pow_right (by decide) (show 1071 - x / 4503599627370496 ≤ 52 by omega)) (by omega)
  · rcases Nat.lt_or_ge (x / 4503599627370496) 1029 with h4 | h4
    · have h5 : 2 ^ 43 ≤ 2 ^ (1071 - x / 4503599627370496) := Nat.pow_le_pow_right (by decide) (by omega)
      have h6 : sig x / 2 ^ (1071 - x / 4503599627370496) ≤ sig x / 2 ^ 43 := Nat.div_le_div_left h5 (by decide)
      omega
    · have h5 : x / 4503599627370496 = 1029 := by omega
      rw [h5]
      have := h3 h5
      unfold sig
      rw [this]
      decide
theorem Wt.order {x : Nat} (h : Wt x) : (double.order x leastB = some .eq ∨ double.order x leastB = some .gt) ∧ (double.order x mostB = some .lt ∨ double.order x mostB = some .eq) ∧ double.order x x = some .eq := by
  obtain ⟨h1, h2, h3⟩ := h.field
  have hs := sig_lt x
  refine ⟨?_, ?_, ?_⟩
  · unfold Format.order
    rw [h.read, read_least, order_pos]
    have e1 : min (((x / 4503599627370496 : Nat) : Int) - 1075) (-56) = -56 := by omega
    rw [e1]
    have hp : 1 ≤ 2 ^ (((x / 4503599627370496 : Nat) : Int) - 1075 - -56).toNat := Nat.two_pow_pos _
    have h5 : sig x * 1 ≤ sig x * 2 ^ (((x / 4503599627370496 : Nat) : Int) - 1075 - -56).toNat := Nat.mul_le_mul_left _ hp
    simp only [show (-56 - -56 : Int).toNat = 0 by decide, Nat.pow_zero, Nat.mul_one]
    rcases Nat.lt_or_ge 4503599627370496 (sig x * 2 ^ (((x / 4503599627370496 : Nat) : Int) - 1075 - -56).toNat) with h6 | h6
    · exact .inr (by rw [cmp_gt (by omega)])
    · exact .inl (by rw [cmp_eq (by omega)])
  · unfold Format.order
    rw [h.read, read_most, order_pos]
    have e1 : min (((x / 4503599627370496 : Nat) : Int) - 1075) (-46) = ((x / 4503599627370496 : Nat) : Int) - 1075 := by omega
    rw [e1, show ((((x / 4503599627370496 : Nat) : Int) - 1075) - (((x / 4503599627370496 : Nat) : Int) - 1075)).toNat = 0 by omega, Nat.pow_zero, Nat.mul_one]
    rcases Nat.lt_or_ge (x / 4503599627370496) 1029 with h4 | h4
    · have h5 : 2 ^ 1 ≤ 2 ^ (-46 - (((x / 4503599627370496 : Nat) : Int) - 1075)).toNat := Nat.pow_le_pow_right (by decide) (by omega)
      have h6 := Nat.mul_le_mul_left 4503599627370496 h5
      exact .inl (by rw [cmp_lt (by omega)])
    · have h5 : x / 4503599627370496 = 1029 := by omega
      have h6 := h3 h5
      rw [h5]
      refine .inr ?_
      unfold sig
      rw [h6]
      rw [cmp_eq (by decide)]
  · unfold Format.order
    exact order_self (by rw [h.read]; rfl)
theorem signed_zero (q : Nat) : signed false q 0 = (q : Int) := by unfold signed; rw [if_neg (by decide), Nat.shiftLeft_zero]
theorem toInt_of {d : Datum} {way : Toward} {q : Nat} (h : d.integral way = .number false q 0) : d.toInt way = some (q : Int) := by
  unfold Datum.toInt
  rw [h]
  exact congrArg some (signed_zero q)
theorem Wt.int {x : Nat} (h : Wt x) : (double.read (x + 18014398509481984)).toInt .zero = some (quan x : Int) := toInt_of (h.whole (.inr rfl))
theorem Wt.fq {x : Nat} (h : Wt x) : Fq x (quan x) := by
  obtain ⟨h1, h2, h3⟩ := h.order
  have hq := h.qb
  constructor
  · rw [f64_eq]; exact h3
  · rw [f64_eq]; rcases h1 with h1 | h1 <;> rw [h1] <;> rfl
  · rw [f64_eq]; rcases h2 with h2 | h2 <;> rw [h2] <;> rfl
  · refine ⟨x + 18014398509481984, ?_, ?_⟩
    · rw [f64_eq]; exact h.mul
    · unfold FloatKind.decode; rw [f64_eq]; exact h.int
  · omega
  · omega
theorem not_wt {x : Nat} (hx : x < 18446744073709551616) (h : ¬ Wt x) : double.order x x = none ∨ double.order x leastB = some .lt ∨ double.order x mostB = some .gt := by
  rcases Nat.lt_or_ge x 9223372036854775808 with h1 | h1
  · rcases Nat.lt_or_ge 9218868437227405312 x with h2 | h2
    · obtain ⟨t, e⟩ := read_nan h2 h1
      left; unfold Format.order; rw [e]; rfl
    · rcases Nat.lt_or_ge x 9218868437227405312 with h3 | h3
      · rcases Nat.lt_or_ge x leastB with h4 | h4
        · right; left
          unfold Format.order
          rw [read_least]
          rcases Nat.lt_or_ge x 4503599627370496 with h5 | h5
          · rw [read_sub h5, order_pos]
            rw [show min (-1074 : Int) (-56) = -1074 by decide, show (-1074 - -1074 : Int).toNat = 0 by decide, Nat.pow_zero, Nat.mul_one]
            have hp : 1 ≤ 2 ^ (-56 - -1074 : Int).toNat := Nat.two_pow_pos _
            have h6 := Nat.mul_le_mul_left 4503599627370496 hp
            rw [cmp_lt (by omega)]
          · rw [read_pos h5 h3, order_pos]
            have h6 : x / 4503599627370496 ≤ 1018 := by unfold leastB at h4; omega
            have e1 : min (((x / 4503599627370496 : Nat) : Int) - 1075) (-56) = ((x / 4503599627370496 : Nat) : Int) - 1075 := by omega
            rw [e1, show ((((x / 4503599627370496 : Nat) : Int) - 1075) - (((x / 4503599627370496 : Nat) : Int) - 1075)).toNat = 0 by omega, Nat.pow_zero, Nat.mul_one]
            have h7 : 2 ^ 1 ≤ 2 ^ (-56 - (((x / 4503599627370496 : Nat) : Int) - 1075)).toNat := Nat.pow_le_pow_right (by decide) (by omega)
            have h8 := Nat.mul_le_mul_left 4503599627370496 h7
            rw [cmp_lt (by omega)]
        · right; right
          have h5 : mostB < x := by
            rcases Nat.lt_or_ge mostB x with h | h6
            · exact h
            · exact absurd ⟨h4, h6⟩ h
          unfold mostB at h5
          unfold Format.order
          rw [read_most, read_pos (by omega) h3, order_pos]
          have h6 : 1029 ≤ x / 4503599627370496 := by omega
          have e1 : min (((x / 4503599627370496 : Nat) : Int) - 1075) (-46) = -46 := by omega
          rw [e1, show (-46 - -46 : Int).toNat = 0 by decide, Nat.pow_zero, Nat.mul_one]
          rcases Nat.lt_or_ge 1029 (x / 4503599627370496) with h7 | h7
          · have h8 : 2 ^ 1 ≤ 2 ^ ((((x / 4503599627370496 : Nat) : Int) - 1075) - -46).toNat := Nat.pow_le_pow_right (by decide) (by omega)
            have h9 := Nat.mul_le_mul (show 4503599627370496 ≤ 4503599627370496 + x % 4503599627370496 by omega) h8
            rw [cmp_gt (by omega)]
          · have h8 : x / 4503599627370496 = 1029 := by omega
            rw [h8, show (((1029 : Nat) : Int) - 1075 - -46).toNat = 0 by decide, Nat.pow_zero, Nat.mul_one]
            rw [cmp_gt (by omega)]
      · have e : x = 9218868437227405312 := by omega
        right; right
        unfold Format.order
        rw [e, read_inf, read_most]; rfl
  · rcases read_neg h1 hx with ⟨m, i, e⟩ | e | ⟨t, e⟩
    · right; left
      unfold Format.order
      rw [e, read_least]
      simp only [Datum.order, signed, if_true]
      have h3 : (0 : Int) ≤ ((m <<< (i - min i (-56)).toNat : Nat) : Int) := Int.natCast_nonneg _
      have h4 : 0 < 4503599627370496 <<< (-56 - min i (-56)).toNat := by
        rw [Nat.shiftLeft_eq]
        exact Nat.mul_pos (by decide) (Nat.two_pow_pos _)
      rw [if_neg (by decide), cmp_lt (by omega)]
    · right; left
      unfold Format.order
      rw [e, read_least]; rfl
    · left; unfold Format.order; rw [e]; rfl
theorem not_wt_nq {x : Nat} (hx : x < 18446744073709551616) (h : ¬ Wt x) : Nq x := by
  rcases not_wt hx h with h | h | h
  · left; show double.order x x ≠ _; rw [h]; exact fun h => by cases h
  · right; left; show (double.order x leastB == _) = true; rw [h]; rfl
  · right; right; show (double.order x mostB == _) = true; rw [h]; rfl
/-- Whole numbers as floats. -/
def wholeB (q : Nat) : Bool := (double.read (double.write (.number false q 0))).toInt .zero == some (q : Int) && (FloatKind.f64.nearest (q : Int) == double.write (.number false q 0)) &&
  (double.read (double.write (.number false q 0)) == .number false (q * 2 ^ (52 - q.log2)) (q.log2 - 52 : Int))
theorem whole_all : (List.range 1026).all (fun q => q == 0 || wholeB q) = true := by decide +kernel
theorem whole {q : Nat} (h1 : 1 ≤ q) (h2 : q ≤ 1025) : (double.read (double.write (.number false q 0))).toInt .zero = some (q : Int) ∧ FloatKind.f64.nearest (q : Int) = double.write (.number false q 0) ∧ double.read (double.write (.number false q 0)) = .number false (q * 2 ^ (52 - q.log2)) (q.log2 - 52 : Int) := by
  have h := List.all_eq_true.1 whole_all q (by simp; omega)
  simp only [Bool.or_eq_true, beq_iff_eq] at h
  rcases h with h | h
  · omega
  · unfold wholeB at h
    simp only [Bool.and_eq_true, beq_iff_eq] at h
    exact ⟨h.1.1, h.1.2, h.2⟩
end Go.FairP
