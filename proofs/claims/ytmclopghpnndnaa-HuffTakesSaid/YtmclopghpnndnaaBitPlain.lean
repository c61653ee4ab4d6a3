/-
  Bits of bytes, plainly.
-/
import Derived.Test.YtmclopghpnndnaaSl20
namespace Go.BitP
set_option linter.unusedVariables false
set_option linter.unusedSimpArgs false
/-- Bytes. -/
def Byt (B : List Int) : Prop := ∀ x ∈ B, 0 ≤ x ∧ x < 256
theorem Byt.get {B : List Int} (h : Byt B) (i : Nat) : 0 ≤ B.getD i 0 ∧ B.getD i 0 < 256 := by
  rcases Nat.lt_or_ge i B.length with hi | hi
  · exact h _ (by simp [List.getD_eq_getElem?_getD, hi])
  · simp [List.getD_eq_getElem?_getD, hi]
/-- The bit at a place, from each byte's lowest on. -/
def bitL (B : List Int) (i : Nat) : Int := B.getD (i / 8) 0 / 2 ^ (i % 8) % 2
theorem bitL_01 (B : List Int) (i : Nat) : 0 ≤ bitL B i ∧ bitL B i ≤ 1 := by unfold bitL; omega
/-- A number of bits, its lowest first. -/
def numL (B : List Int) (at_ : Nat) : Nat → Int
  | 0 => 0
  | n + 1 => numL B at_ n + bitL B (at_ + n) * 2 ^ n
theorem numL_bound (B : List Int) (at_ : Nat) : ∀ n : Nat, 0 ≤ numL B at_ n ∧ numL B at_ n < 2 ^ n
  | 0 => by simp [numL]
  | n + 1 => by
    have h := numL_bound B at_ n
    have h2 := bitL_01 B (at_ + n)
    have hp : (0 : Int) < 2 ^ n := Int.pow_pos (by decide)
    simp only [numL]
    rw [Int.pow_succ]
    have h3 : bitL B (at_ + n) = 0 ∨ bitL B (at_ + n) = 1 := by omega
    rcases h3 with e | e <;> rw [e] <;> omega
theorem pow24 {n : Nat} (h : n ≤ 24) : (2 : Int) ^ n ≤ 16777216 := by
  have : (2 : Nat) ^ n ≤ 2 ^ 24 := Nat.pow_le_pow_right (by decide) h
  have e : ((2 : Int) ^ n) = ((2 ^ n : Nat) : Int) := by simp
  rw [e]
  omega
theorem ofInt_nat (k : Nat) (a : Nat) : (BitVec.ofInt k (a : Int)).toNat = a % 2 ^ k := by
  rw [BitVec.toNat_ofInt]
  have : ((a : Int) % ((2 ^ k : Nat) : Int)) = ((a % 2 ^ k : Nat) : Int) := by simp
  omega
theorem or64 {a b : Nat} (ha : a < 2 ^ 62) (hb : b < 2 ^ 62) : IntKind.i64.wrap ((BitVec.ofInt IntKind.i64.bits (a : Int) ||| BitVec.ofInt IntKind.i64.bits (b : Int)).toNat : Int) = ((a ||| b : Nat) : Int) := by
  have e : IntKind.i64.bits = 64 := rfl
  rw [e, BitVec.toNat_or, ofInt_nat, ofInt_nat, Nat.mod_eq_of_lt (by omega), Nat.mod_eq_of_lt (by omega)]
  have := Nat.or_lt_two_pow ha hb
  exact Sl.wrapI (by omega) (by omega)
/-- A bit is laid above. -/
theorem or_up {x b : Int} {n : Nat} (h0 : 0 ≤ x) (h1 : x < 2 ^ n) (hb : 0 ≤ b ∧ b ≤ 1) (hn : n ≤ 24) : IntKind.i64.wrap ((BitVec.ofInt IntKind.i64.bits x ||| BitVec.ofInt IntKind.i64.bits (b * 2 ^ n)).toNat : Int) = x + b * 2 ^ n := by
  obtain ⟨a, rfl⟩ : ∃ a : Nat, x = (a : Int) := ⟨x.toNat, by omega⟩
  obtain ⟨c, rfl⟩ : ∃ c : Nat, b = (c : Int) := ⟨b.toNat, by omega⟩
  have hp := pow24 hn
  have e1 : (c : Int) * 2 ^ n = ((2 ^ n * c : Nat) : Int) := by rw [Nat.mul_comm]; simp
  have ha : a < 2 ^ n := by
    have : ((a : Nat) : Int) < ((2 ^ n : Nat) : Int) := by simpa using h1
    omega
  have hpn : 2 ^ n ≤ 16777216 := by
    have : ((2 ^ n : Nat) : Int) ≤ 16777216 := by simpa using hp
    omega
  have hc : 2 ^ n * c ≤ 16777216 := by
    have : c = 0 ∨ c = 1 := by omega
    rcases this with rfl | rfl <;> omega
  rw [e1, or64 (by omega) (by omega), Nat.or_comm, ← Nat.two_pow_add_eq_or_of_lt ha]
  omega
/-- A bit is laid below. -/
theorem or_low {x b : Int} (h0 : 0 ≤ x) (h1 : x < 2 ^ 40) (hb : 0 ≤ b ∧ b ≤ 1) : IntKind.i64.wrap ((BitVec.ofInt IntKind.i64.bits (2 * x) ||| BitVec.ofInt IntKind.i64.bits b).toNat : Int) = 2 * x + b := by
  obtain ⟨a, rfl⟩ : ∃ a : Nat, x = (a : Int) := ⟨x.toNat, by omega⟩
  obtain ⟨c, rfl⟩ : ∃ c : Nat, b = (c : Int) := ⟨b.toNat, by omega⟩
  have e1 : 2 * (a : Int) = ((2 ^ 1 * a : Nat) : Int) := by omega
  rw [e1, or64 (by omega) (by omega), ← Nat.two_pow_add_eq_or_of_lt (by omega)]
  omega
theorem and_one8 {x : Int} (h0 : 0 ≤ x) (h1 : x < 256) : IntKind.u8.wrap ((BitVec.ofInt IntKind.u8.bits x &&& BitVec.ofInt IntKind.u8.bits 1).toNat : Int) = x % 2 := by
  obtain ⟨a, rfl⟩ : ∃ a : Nat, x = (a : Int) := ⟨x.toNat, by omega⟩
  have e : IntKind.u8.bits = 8 := rfl
  have e1 : BitVec.ofInt 8 1 = BitVec.ofInt 8 ((1 : Nat) : Int) := rfl
  rw [e, e1, BitVec.toNat_and, ofInt_nat, ofInt_nat, Nat.mod_eq_of_lt (by omega)]
  have : a &&& (1 % 2 ^ 8) = a % 2 := Nat.and_one_is_mod a
  rw [this]
  have e2 : IntKind.u8.wrap (((a % 2 : Nat)) : Int) = ((a % 2 : Nat) : Int) % 256 := by simp [IntKind.wrap, IntKind.bits, IntKind.signed]
  rw [e2]
  omega
theorem and_one64 {x : Int} (h0 : 0 ≤ x) (h1 : x < 2 ^ 62) : IntKind.i64.wrap ((BitVec.ofInt IntKind.i64.bits x &&& BitVec.ofInt IntKind.i64.bits 1).toNat : Int) = x % 2 := by
  obtain ⟨a, rfl⟩ : ∃ a : Nat, x = (a : Int) := ⟨x.toNat, by omega⟩
  have e : IntKind.i64.bits = 64 := rfl
  have e1 : BitVec.ofInt 64 1 = BitVec.ofInt 64 ((1 : Nat) : Int) := rfl
  rw [e, e1, BitVec.toNat_and, ofInt_nat, ofInt_nat, Nat.mod_eq_of_lt (by omega)]
  have : a &&& (1 % 2 ^ 64) = a % 2 := Nat.and_one_is_mod a
  rw [this]
  exact (Sl.wrapI (by omega) (by omega)).trans (by omega)
theorem shr8 {x : Int} {k : Nat} (h0 : 0 ≤ x) (hk : k < 8) {d : Int} (hd : d = (k : Int)) : x.fdiv (2 ^ (min d.toNat IntKind.u8.bits)) = x / 2 ^ k := by
  have e : min d.toNat IntKind.u8.bits = k := by
    have : IntKind.u8.bits = 8 := rfl
    omega
  rw [e, Int.fdiv_eq_ediv_of_nonneg _ (Int.le_of_lt (Int.pow_pos (by decide)))]
theorem shl24 {b : Int} {n : Nat} (hb : 0 ≤ b ∧ b ≤ 1) (hn : n ≤ 24) {d : Int} (hd : d = (n : Int)) : IntKind.i64.wrap (b * 2 ^ (min d.toNat IntKind.i64.bits)) = b * 2 ^ n := by
  have e : min d.toNat IntKind.i64.bits = n := by
    have : IntKind.i64.bits = 64 := rfl
    omega
  rw [e]
  have hp := pow24 hn
  have h0 : (0 : Int) < 2 ^ n := Int.pow_pos (by decide)
  have h3 : b = 0 ∨ b = 1 := by omega
  rcases h3 with e | e <;> rw [e] <;> exact Sl.wrapI (by omega) (by omega)
theorem shl1 {x : Int} (h0 : 0 ≤ x) (h1 : x < 2 ^ 40) : IntKind.i64.wrap (x * 2 ^ (min (1 : Int).toNat IntKind.i64.bits)) = 2 * x := by
  rw [show min (1 : Int).toNat IntKind.i64.bits = 1 from rfl, Int.pow_one]
  rw [Sl.wrapI (by omega) (by omega)]
  omega
theorem div_byte {x : Int} (h0 : 0 ≤ x) (h1 : x < 256) (k : Nat) : 0 ≤ x / 2 ^ k ∧ x / 2 ^ k < 256 := by
  have hp : (0 : Int) < 2 ^ k := Int.pow_pos (by decide)
  have h2 := Int.ediv_nonneg h0 (Int.le_of_lt hp)
  have h3 := Int.ediv_le_self (2 ^ k) h0
  omega
end Go.BitP
namespace Go.Sl
theorem wrap8 {n : Int} (h1 : 0 ≤ n) (h2 : n < 256) : IntKind.u8.wrap n = n := by
  have e : IntKind.u8.wrap n = n % 256 := by simp [IntKind.wrap, IntKind.bits, IntKind.signed]
  rw [e]; omega
end Go.Sl
