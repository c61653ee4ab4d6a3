/- Steps of the proof: the walks of the functions that the statement reaches; printed by a program of ours. -/
import Derived.Test.YtoplcgkafaoafaaSl20
import Derived.Test.YtoplcgkafaoafaaM26
/-
  Bits of bytes, plainly.
-/
namespace Go.BitP
set_option linter.unusedVariables false
set_option linter.unusedSimpArgs false
/-- Bytes. -/
def Byt (B : List Int) : Prop := ∀ x ∈ B, 0 ≤ x ∧ x < 256
theorem Byt.get {B : List Int} (h : Byt B) (i : Nat) : 0 ≤ B.getD i 0 ∧ B.getD i 0 < 256 := by
  rcases Nat.lt_or_ge i B.length with hi | hi
  · exact h _ (by simp [List.getD_eq_getElem?_getD, hi])
  · simp [List.getD_eq_getElem?_getD, hi]
/-- The bit at a place, from each byte's lowest on. -/
def bitL (B : List Int) (i : Nat) : Int := B.getD (i / 8) 0 / 2 ^ (i % 8) % 2
theorem bitL_01 (B : List Int) (i : Nat) : 0 ≤ bitL B i ∧ bitL B i ≤ 1 := by unfold bitL; omega
/-- A number of bits, its lowest first. -/
def numL (B : List Int) (at_ : Nat) : Nat → Int
  | 0 => 0
  | n + 1 => numL B at_ n + bitL B (at_ + n) * 2 ^ n
theorem numL_bound (B : List Int) (at_ : Nat) : ∀ n : Nat, 0 ≤ numL B at_ n ∧ numL B at_ n < 2 ^ n
  | 0 => by simp [numL]
  | n + 1 => by
    have h := numL_bound B at_ n
    have h2 := bitL_01 B (at_ + n)
    have hp : (0 : Int) < 2 ^ n := Int.pow_pos (by decide)
    simp only [numL]
    rw [Int.pow_succ]
    have h3 : bitL B (at_ + n) = 0 ∨ bitL B (at_ + n) = 1 := by omega
    rcases h3 with e | e <;> rw [e] <;> omega
theorem pow24 {n : Nat} (h : n ≤ 24) : (2 : Int) ^ n ≤ 16777216 := by
  have : (2 : Nat) ^ n ≤ 2 ^ 24 := Nat.pow_le_pow_right (by decide) h
  have e : ((2 : Int) ^ n) = ((2 ^ n : Nat) : Int) := by simp
  rw [e]
  omega
theorem ofInt_nat (k : Nat) (a : Nat) : (BitVec.ofInt k (a : Int)).toNat = a % 2 ^ k := by
  rw [BitVec.toNat_ofInt]
  have : ((a : Int) % ((2 ^ k : Nat) : Int)) = ((a % 2 ^ k : Nat) : Int) := by simp
  omega
theorem or64 {a b : Nat} (ha : a < 2 ^ 62) (hb : b < 2 ^ 62) : IntKind.i64.wrap ((BitVec.ofInt IntKind.i64.bits (a : Int) ||| BitVec.ofInt IntKind.i64.bits (b : Int)).toNat : Int) = ((a ||| b : Nat) : Int) := by
  have e : IntKind.i64.bits = 64 := rfl
  rw [e, BitVec.toNat_or, ofInt_nat, ofInt_nat, Nat.mod_eq_of_lt (by omega), Nat.mod_eq_of_lt (by omega)]
  have := Nat.or_lt_two_pow ha hb
  exact Sl.wrapI (by omega) (by omega)
/-- A bit is laid above. -/
theorem or_up {x b : Int} {n : Nat} (h0 : 0 ≤ x) (h1 : x < 2 ^ n) (hb : 0 ≤ b ∧ b ≤ 1) (hn : n ≤ 24) : IntKind.i64.wrap ((BitVec.ofInt IntKind.i64.bits x ||| BitVec.ofInt IntKind.i64.bits (b * 2 ^ n)).toNat : Int) = x + b * 2 ^ n := by
  obtain ⟨a, rfl⟩ : ∃ a : Nat, x = (a : Int) := ⟨x.toNat, by omega⟩
  obtain ⟨c, rfl⟩ : ∃ c : Nat, b = (c : Int) := ⟨b.toNat, by omega⟩
  have hp := pow24 hn
  have e1 : (c : Int) * 2 ^ n = ((2 ^ n * c : Nat) : Int) := by rw [Nat.mul_comm]; simp
  have ha : a < 2 ^ n := by
    have : ((a : Nat) : Int) < ((2 ^ n : Nat) : Int) := by simpa using h1
    omega
  have hpn : 2 ^ n ≤ 16777216 := by
    have : ((2 ^ n : Nat) : Int) ≤ 16777216 := by simpa using hp
    omega
  have hc : 2 ^ n * c ≤ 16777216 := by
    have : c = 0 ∨ c = 1 := by omega
    rcases this with rfl | rfl <;> omega
  rw [e1, or64 (by omega) (by omega), Nat.or_comm, ← Nat.two_pow_add_eq_or_of_lt ha]
  omega
/-- A bit is laid below. -/
theorem or_low {x b : Int} (h0 : 0 ≤ x) (h1 : x < 2 ^ 40) (hb : 0 ≤ b ∧ b ≤ 1) : IntKind.i64.wrap ((BitVec.ofInt IntKind.i64.bits (2 * x) ||| BitVec.ofInt IntKind.i64.bits b).toNat : Int) = 2 * x + b := by
  obtain ⟨a, rfl⟩ : ∃ a : Nat, x = (a : Int) := ⟨x.toNat, by omega⟩
  obtain ⟨c, rfl⟩ : ∃ c : Nat, b = (c : Int) := ⟨b.toNat, by omega⟩
  have e1 : 2 * (a : Int) = ((2 ^ 1 * a : Nat) : Int) := by omega
  rw [e1, or64 (by omega) (by omega), ← Nat.two_pow_add_eq_or_of_lt (by omega)]
  omega
theorem and_one8 {x : Int} (h0 : 0 ≤ x) (h1 : x < 256) : IntKind.u8.wrap ((BitVec.ofInt IntKind.u8.bits x &&& BitVec.ofInt IntKind.u8.bits 1).toNat : Int) = x % 2 := by
  obtain ⟨a, rfl⟩ : ∃ a : Nat, x = (a : Int) := ⟨x.toNat, by omega⟩
  have e : IntKind.u8.bits = 8 := rfl
  have e1 : BitVec.ofInt 8 1 = BitVec.ofInt 8 ((1 : Nat) : Int) := rfl
  rw [e, e1, BitVec.toNat_and, ofInt_nat, ofInt_nat, Nat.mod_eq_of_lt (by omega)]
  have : a &&& (1 % 2 ^ 8) = a % 2 := Nat.and_one_is_mod a
  rw [this]
  have e2 : IntKind.u8.wrap (((a % 2 : Nat)) : Int) = ((a % 2 : Nat) : Int) % 256 := by simp [IntKind.wrap, IntKind.bits, IntKind.signed]
  rw [e2]
  omega
theorem and_one64 {x : Int} (h0 : 0 ≤ x) (h1 : x < 2 ^ 62) : IntKind.i64.wrap ((BitVec.ofInt IntKind.i64.bits x &&& BitVec.ofInt IntKind.i64.bits 1).toNat : Int) = x % 2 := by
  obtain ⟨a, rfl⟩ : ∃ a : Nat, x = (a : Int) := ⟨x.toNat, by omega⟩
  have e : IntKind.i64.bits = 64 := rfl
  have e1 : BitVec.ofInt 64 1 = BitVec.ofInt 64 ((1 : Nat) : Int) := rfl
  rw [e, e1, BitVec.toNat_and, ofInt_nat, ofInt_nat, Nat.mod_eq_of_lt (by omega)]
  have : a &&& (1 % 2 ^ 64) = a % 2 := Nat.and_one_is_mod a
  rw [this]
  exact (Sl.wrapI (by omega) (by omega)).trans (by omega)
theorem shr8 {x : Int} {k : Nat} (h0 : 0 ≤ x) (hk : k < 8) {d : Int} (hd : d = (k : Int)) : x.fdiv (2 ^ (min d.toNat IntKind.u8.bits)) = x / 2 ^ k := by
  have e : min d.toNat IntKind.u8.bits = k := by
    have : IntKind.u8.bits = 8 := rfl
    omega
  rw [e, Int.fdiv_eq_ediv_of_nonneg _ (Int.le_of_lt (Int.pow_pos (by decide)))]
theorem shl24 {b : Int} {n : Nat} (hb : 0 ≤ b ∧ b ≤ 1) (hn : n ≤ 24) {d : Int} (hd : d = (n : Int)) : IntKind.i64.wrap (b * 2 ^ (min d.toNat IntKind.i64.bits)) = b * 2 ^ n := by
  have e : min d.toNat IntKind.i64.bits = n := by
    have : IntKind.i64.bits = 64 := rfl
    omega
  rw [e]
  have hp := pow24 hn
  have h0 : (0 : Int) < 2 ^ n := Int.pow_pos (by decide)
  have h3 : b = 0 ∨ b = 1 := by omega
  rcases h3 with e | e <;> rw [e] <;> exact Sl.wrapI (by omega) (by omega)
theorem shl1 {x : Int} (h0 : 0 ≤ x) (h1 : x < 2 ^ 40) : IntKind.i64.wrap (x * 2 ^ (min (1 : Int).toNat IntKind.i64.bits)) = 2 * x := by
  rw [show min (1 : Int).toNat IntKind.i64.bits = 1 from rfl, Int.pow_one]
  rw [Sl.wrapI (by omega) (by omega)]
  omega
theorem div_byte {x : Int} (h0 : 0 ≤ x) (h1 : x < 256) (k : Nat) : 0 ≤ x / 2 ^ k ∧ x / 2 ^ k < 256 := by
  have hp : (0 : Int) < 2 ^ k := Int.pow_pos (by decide)
  have h2 := Int.ediv_nonneg h0 (Int.le_of_lt hp)
  have h3 := Int.ediv_le_self (2 ^ k) h0
  omega
end Go.BitP
namespace Go.Sl
theorem wrap8 {n : Int} (h1 : 0 ≤ n) (h2 : n < 256) : IntKind.u8.wrap n = n := by
  have e : IntKind.u8.wrap n = n % 256 := by simp [IntKind.wrap, IntKind.bits, IntKind.signed]
  rw [e]; omega
end Go.Sl

/-
  A symbol is taken, bit by bit.
-/
namespace Go.BitP
/-- A number of bits, its highest first. -/
def acc (B : List Int) (at_ : Nat) : Nat → Int
  | 0 => 0
  | n + 1 => 2 * acc B at_ n + bitL B (at_ + n)
theorem acc_bound (B : List Int) (at_ : Nat) : ∀ n : Nat, 0 ≤ acc B at_ n ∧ acc B at_ n < 2 ^ n
  | 0 => by simp [acc]
  | n + 1 => by
    have h := acc_bound B at_ n
    have h2 := bitL_01 B (at_ + n)
    simp only [acc]
    rw [Int.pow_succ]
    omega
theorem numL_one (B : List Int) (a : Nat) : numL B a 1 = bitL B a := by simp [numL]
end Go.BitP
namespace Go.HuffP
open Go.BitP
set_option linter.unusedVariables false
set_option linter.unusedSimpArgs false
/-- What comes of taking a symbol: how many bits were taken, and which symbol; or that bits end, or that there is no word. -/
inductive TR where
  | hit (n : Nat) (s : Int)
  | short (n : Nat)
  | none_ (n : Nat)
def tkGo (ls B : List Int) (at_ : Nat) : Nat → Nat → TR
  | 0, n => .none_ n
  | r + 1, n => if at_ + n < 8 * B.length then (if acc B at_ (n + 1) - base ls (n + 1) < cnt ls (n + 1) then .hit (n + 1) ((ord ls).getD (off ls (n + 1) + (acc B at_ (n + 1) - base ls (n + 1)).toNat) 0) else tkGo ls B at_ r (n + 1)) else .short n
def mst (ls : List Int) : Nat := (mostL ls).toNat
def tk (ls B : List Int) (at_ : Nat) : TR := tkGo ls B at_ (mst ls) 0
/-- How far it has come: n levels are behind. -/
structure Tk (ls B : List Int) (at_ n : Nat) : Prop where
  le : n ≤ mst ls
  eq : tk ls B at_ = tkGo ls B at_ (mst ls - n) n
  ge : base ls n + cnt ls n ≤ acc B at_ n
  room : at_ + n ≤ 8 * B.length
theorem tk_start {ls B : List Int} {at_ : Nat} (h : at_ ≤ 8 * B.length) : Tk ls B at_ 0 := ⟨Nat.zero_le _, rfl, by simp [base, cnt, acc], h⟩
section
variable {ls B : List Int} {at_ n : Nat}
theorem Tk.none (h : Tk ls B at_ n) (hm : mst ls ≤ n) : tk ls B at_ = .none_ n := by
  rw [h.eq, show mst ls - n = 0 by omega]; rfl
theorem Tk.short (h : Tk ls B at_ n) (hm : n < mst ls) (hx : 8 * B.length ≤ at_ + n) : tk ls B at_ = .short n := by
  rw [h.eq, show mst ls - n = (mst ls - (n + 1)) + 1 by omega]
  simp only [tkGo]
  rw [if_neg (by omega)]
theorem Tk.hit (h : Tk ls B at_ n) (hm : n < mst ls) (hx : at_ + n < 8 * B.length) (hl : acc B at_ (n + 1) - base ls (n + 1) < cnt ls (n + 1)) : tk ls B at_ = .hit (n + 1) ((ord ls).getD (off ls (n + 1) + (acc B at_ (n + 1) - base ls (n + 1)).toNat) 0) := by
  rw [h.eq, show mst ls - n = (mst ls - (n + 1)) + 1 by omega]
  simp only [tkGo]
  rw [if_pos hx, if_pos hl]
theorem Tk.miss (h : Tk ls B at_ n) (hm : n < mst ls) (hx : at_ + n < 8 * B.length) (hl : ¬ acc B at_ (n + 1) - base ls (n + 1) < cnt ls (n + 1)) : Tk ls B at_ (n + 1) := by
  refine ⟨hm, ?_, by omega, by omega⟩
  rw [h.eq, show mst ls - n = (mst ls - (n + 1)) + 1 by omega]
  simp only [tkGo]
  rw [if_pos hx, if_neg hl]
theorem Tk.nn (h : Tk ls B at_ n) : base ls (n + 1) ≤ acc B at_ (n + 1) := by
  have h1 := h.ge
  have h2 := bitL_01 B (at_ + n)
  simp only [base, acc]
  omega
end
/-! ### The longest word -/
theorem most_ge (ls : List Int) : ∀ x ∈ ls, x ≤ mostL ls := by
  have key : ∀ (l : List Int) (a : Int), a ≤ l.foldl (fun a x => if a < x then x else a) a ∧ ∀ x ∈ l, x ≤ l.foldl (fun a x => if a < x then x else a) a := by
    intro l
    induction l with
    | nil => intro a; exact ⟨Int.le_refl _, fun x hx => by cases hx⟩
    | cons y l ih =>
      intro a
      simp only [List.foldl_cons]
      obtain ⟨h1, h2⟩ := ih (if a < y then y else a)
      refine ⟨Int.le_trans (by split <;> omega) h1, fun x hx => ?_⟩
      rcases List.mem_cons.1 hx with rfl | hx
      · exact Int.le_trans (by split <;> omega) h1
      · exact h2 x hx
  exact (key ls 0).2
theorem most_in (ls : List Int) : mostL ls = 0 ∨ mostL ls ∈ ls := by
  have key : ∀ (l : List Int) (a : Int), l.foldl (fun a x => if a < x then x else a) a = a ∨ l.foldl (fun a x => if a < x then x else a) a ∈ l := by
    intro l
    induction l with
    | nil => intro a; exact .inl rfl
    | cons y l ih =>
      intro a
      simp only [List.foldl_cons]
      rcases ih (if a < y then y else a) with h | h
      · rw [h]
        split
        · exact .inr (List.mem_cons_self ..)
        · exact .inl rfl
      · exact .inr (List.mem_cons_of_mem _ h)
  exact key ls 0
theorem mst_le {ls : List Int} (hV : Vl ls) : mst ls ≤ 15 := by
  unfold mst
  rcases most_in ls with h | h
  · omega
  · have := hV.2 _ h; omega
theorem mst_eq (ls : List Int) : mostL ls = (mst ls : Int) := by
  have := most_nn ls
  unfold mst; omega
theorem off_16 {ls : List Int} (hV : Vl ls) {m : Nat} (hm : m ≤ 15) : off ls (m + 1) ≤ 320 := by
  have h1 := off_mono ls (show m + 1 ≤ 16 by omega)
  have h2 := posn_len hV
  have h3 := posn_le ls
  have h4 := hV.1
  rw [ord_len] at h2
  omega
theorem cntL_i {ls : List Int} {m : Nat} (hm : m < 15) : (cntL ls).getD ((m : Int) + 1).toNat 0 = cnt ls (m + 1) := by
  rw [show ((m : Int) + 1).toNat = m + 1 by omega, cntL_get (by omega)]
/-- The place of a symbol that is hit. -/
theorem hit_at {ls : List Int} {m : Nat} {a : Int} (hm : m < 15) (h0 : base ls (m + 1) ≤ a) (hl : a - base ls (m + 1) < cnt ls (m + 1)) : off ls (m + 1) + (a - base ls (m + 1)).toNat < (ord ls).length := by
  have := cnt_cls ls m
  exact off_le ls hm (by omega)
end Go.HuffP

/-
  Bits that are written; words that are written are taken as they were.
-/
namespace Go.BitP
set_option linter.unusedVariables false
set_option linter.unusedSimpArgs false
/-- Bits that were written, in bytes; so many bits of the last byte are free. -/
structure Pk (bs out : List Int) (fr : Nat) : Prop where
  le : fr ≤ 8
  len : 8 * out.length = bs.length + fr
  byt : Byt out
  get : ∀ i, i < bs.length → bitL out i = bs.getD i 0
  zero : ∀ i, bs.length ≤ i → bitL out i = 0
theorem div_mod2 (x q : Nat) : x / 2 ^ q % 2 = (x.testBit q).toNat := by
  rw [Nat.testBit_eq_decide_div_mod_eq]
  rcases Nat.mod_two_eq_zero_or_one (x / 2 ^ q) with h | h <;> rw [h] <;> rfl
/-- A bit is laid where none was. -/
theorem lor_bit {x b p : Nat} (hb : b ≤ 1) (hz : x / 2 ^ p % 2 = 0) (q : Nat) : (x ||| b * 2 ^ p) / 2 ^ q % 2 = if q = p then b else x / 2 ^ q % 2 := by
  rw [div_mod2] at hz
  rw [div_mod2, div_mod2, Nat.testBit_or]
  have hb2 : (b * 2 ^ p).testBit q = (decide (q = p) && decide (b = 1)) := by
    have : b = 0 ∨ b = 1 := by omega
    rcases this with rfl | rfl
    · simp
    · rw [Nat.one_mul, Nat.testBit_two_pow]
      by_cases e : p = q
      · subst e; simp
      · simp [e, Ne.symm e]
  rw [hb2]
  by_cases e : q = p
  · subst e
    rw [if_pos rfl]
    cases hx : x.testBit q with
    | true => rw [hx] at hz; cases hz
    | false =>
      have : b = 0 ∨ b = 1 := by omega
      rcases this with rfl | rfl <;> simp
  · rw [if_neg e]
    simp [e]
theorem lor_lt {x b p : Nat} (hx : x < 256) (hb : b ≤ 1) (hp : p < 8) : x ||| b * 2 ^ p < 256 := by
  have h2 : b * 2 ^ p < 2 ^ 8 := by
    have h3 : 2 ^ p ≤ 2 ^ 7 := Nat.pow_le_pow_right (by decide) (by omega)
    have : b = 0 ∨ b = 1 := by omega
    rcases this with rfl | rfl <;> omega
  exact Nat.or_lt_two_pow (n := 8) hx h2
theorem or8 {a b : Nat} (ha : a < 256) (hb : b < 256) : IntKind.u8.wrap ((BitVec.ofInt IntKind.u8.bits (a : Int) ||| BitVec.ofInt IntKind.u8.bits (b : Int)).toNat : Int) = ((a ||| b : Nat) : Int) := by
  have e : IntKind.u8.bits = 8 := rfl
  rw [e, BitVec.toNat_or, ofInt_nat, ofInt_nat, Nat.mod_eq_of_lt (by omega), Nat.mod_eq_of_lt (by omega)]
  have := Nat.or_lt_two_pow (n := 8) ha hb
  have e2 : ∀ n : Nat, n < 256 → IntKind.u8.wrap (n : Int) = (n : Int) := fun n hn => Sl.wrap8 (by omega) (by omega)
  exact e2 _ this
/-- The byte behind a bit that is put. -/
def orB (x b : Int) (p : Nat) : Int := ((x.toNat ||| b.toNat * 2 ^ p : Nat) : Int)
theorem or_put {x b : Int} {p : Nat} (hx : 0 ≤ x ∧ x < 256) (hb : 0 ≤ b ∧ b ≤ 1) (hp : p < 8) : IntKind.u8.wrap ((BitVec.ofInt IntKind.u8.bits x ||| BitVec.ofInt IntKind.u8.bits (b * 2 ^ p)).toNat : Int) = orB x b p := by
  obtain ⟨a, rfl⟩ : ∃ a : Nat, x = (a : Int) := ⟨x.toNat, by omega⟩
  obtain ⟨c, rfl⟩ : ∃ c : Nat, b = (c : Int) := ⟨b.toNat, by omega⟩
  have e : (c : Int) * 2 ^ p = ((c * 2 ^ p : Nat) : Int) := by simp
  have h2 : c * 2 ^ p < 256 := by
    have h3 : 2 ^ p ≤ 2 ^ 7 := Nat.pow_le_pow_right (by decide) (by omega)
    have : c = 0 ∨ c = 1 := by omega
    rcases this with rfl | rfl <;> omega
  rw [e, or8 (by omega) h2]
  rfl
theorem shl8 {b : Int} {p : Nat} (hb : 0 ≤ b ∧ b ≤ 1) (hp : p < 8) {d : Int} (hd : d = (p : Int)) : IntKind.u8.wrap (b * 2 ^ (min d.toNat IntKind.u8.bits)) = b * 2 ^ p := by
  have e : min d.toNat IntKind.u8.bits = p := by
    have : IntKind.u8.bits = 8 := rfl
    omega
  rw [e]
  have hp2 : (2 : Nat) ^ p ≤ 2 ^ 7 := Nat.pow_le_pow_right (by decide) (by omega)
  have e2 : ((2 : Int) ^ p) = ((2 ^ p : Nat) : Int) := by simp
  have h0 : (0 : Int) < 2 ^ p := Int.pow_pos (by decide)
  have h3 : b = 0 ∨ b = 1 := by omega
  rcases h3 with e | e <;> rw [e] <;> exact Sl.wrap8 (by omega) (by omega)
end Go.BitP
namespace Go.HuffP
open Go.BitP
set_option linter.unusedVariables false
set_option linter.unusedSimpArgs false
/-- A word's bits, the highest first. -/
def wb (ls : List Int) (s : Int) : List Int := (List.range (lkN ls s).toNat).map (fun i => lkW ls s / 2 ^ ((lkN ls s).toNat - 1 - i) % 2)
theorem wb_len (ls : List Int) (s : Int) : (wb ls s).length = (lkN ls s).toNat := by simp [wb]
theorem wb_get {ls : List Int} {s : Int} {i : Nat} (h : i < (lkN ls s).toNat) : (wb ls s).getD i 0 = lkW ls s / 2 ^ ((lkN ls s).toNat - 1 - i) % 2 := by
  simp [wb, List.getD_eq_getElem?_getD, h]
theorem div_half {W : Int} {k : Nat} (h : 1 ≤ k) : W / 2 ^ (k - 1) = 2 * (W / 2 ^ k) + W / 2 ^ (k - 1) % 2 := by
  have : W / 2 ^ k = W / 2 ^ (k - 1) / 2 := by
    rw [Int.ediv_ediv_of_nonneg (Int.le_of_lt (Int.pow_pos (by decide)))]
    congr 1
    rw [← Int.pow_succ]
    congr 1
    omega
  rw [this]
  omega
theorem tk_word {ls B : List Int} {at_ : Nat} {s : Int} (hE : newE ls = 0) (h0 : 0 ≤ s) (h1 : s < ls.length) (hb : lkB ls s = true) (hg : ∀ i, i < (wb ls s).length → bitL B (at_ + i) = (wb ls s).getD i 0) (hr : at_ + (wb ls s).length ≤ 8 * B.length) : tk ls B at_ = .hit (wb ls s).length s := by
  obtain ⟨hV, hW⟩ := newE_vl hE
  have hp : 0 < ls.getD s.toNat 0 := by rw [(pf_ok hV h0 h1).1, decide_eq_true_eq] at hb; exact hb
  obtain ⟨L, r, hs⟩ := sym_of hV h0 h1 (by omega)
  have hn : (lkN ls s).toNat = L := by rw [hs.n]; omega
  have hwl := wb_len ls s
  rw [hn] at hwl
  rw [hwl] at hg hr ⊢
  have w1 := word_lt hW hs.one hs.top hs.lt
  have b1 := base_nn ls L
  have i1 := hs.one
  have i2 := hs.top
  have hL : L ≤ mst ls := by
    have h2 : ls.getD s.toNat 0 = (L : Int) := by rw [← (pf_ok hV h0 h1).2, hs.n]
    have h3 := most_ge ls (ls.getD s.toNat 0) (by
      have hlt : s.toNat < ls.length := by omega
      simp [List.getD_eq_getElem?_getD, hlt])
    have := mst_eq ls
    omega
  have hacc : ∀ m, m ≤ L → acc B at_ m = (base ls L + (r : Int)) / 2 ^ (L - m) := by
    intro m
    induction m with
    | zero =>
      intro _
      rw [Nat.sub_zero, Int.ediv_eq_zero_of_lt (by omega) w1]
      rfl
    | succ m ih =>
      intro hm
      simp only [acc]
      rw [ih (by omega), hg m (by omega), wb_get (by omega), hn, hs.w, show L - 1 - m = (L - m) - 1 by omega, show L - (m + 1) = (L - m) - 1 by omega]
      exact (div_half (by omega)).symm
  have htk : ∀ m, m < L → Tk ls B at_ m := by
    intro m
    induction m with
    | zero => exact fun _ => tk_start (by omega)
    | succ m ih =>
      intro hm
      refine (ih (by omega)).miss (by omega) (by omega) ?_
      rw [hacc (m + 1) (by omega)]
      have h4 := base_ge ls hm
      have hpp : (0 : Int) < 2 ^ (L - (m + 1)) := Int.pow_pos (by decide)
      have : base ls (m + 1) + cnt ls (m + 1) ≤ (base ls L + (r : Int)) / 2 ^ (L - (m + 1)) := by
        rw [Int.le_ediv_iff_mul_le hpp]
        omega
      omega
  have hT := htk (L - 1) (by omega)
  have e1 : L - 1 + 1 = L := by omega
  have hc : cnt ls L = ((cls ls L).length : Int) := by unfold cnt; rw [if_neg (by omega)]
  have hlt := hs.lt
  have hL2 := hacc L (Nat.le_refl _)
  rw [Nat.sub_self, Int.pow_zero, Int.ediv_one] at hL2
  have := hT.hit (by omega) (by omega) (by rw [e1, hL2]; omega)
  rw [e1, hL2, show (base ls L + (r : Int) - base ls L).toNat = r by omega, ord_get i1 i2 hlt, hs.get] at this
  exact this
/-- The symbols that are put. -/
def ins (ls syms : List Int) : List Int := (syms.map (· % 330)).filter (fun s => decide (s < ls.length) && lkB ls s)
/-- All bits that are put. -/
def bits (ls : List Int) (l : List Int) : List Int := l.flatMap (wb ls)
theorem bits_nil (ls : List Int) : bits ls [] = [] := rfl
theorem bits_snoc (ls l : List Int) (s : Int) : bits ls (l ++ [s]) = bits ls l ++ wb ls s := by simp [bits]
theorem wb_01 {ls : List Int} {s : Int} : ∀ b ∈ wb ls s, 0 ≤ b ∧ b ≤ 1 := by
  intro b hb
  unfold wb at hb
  obtain ⟨i, _, rfl⟩ := List.mem_map.1 hb
  omega
theorem wb_take {ls : List Int} {s : Int} {k : Nat} (h : k < (lkN ls s).toNat) : (wb ls s).take k ++ [lkW ls s / 2 ^ ((lkN ls s).toNat - 1 - k) % 2] = (wb ls s).take (k + 1) := by
  have hk : k < (wb ls s).length := by rw [wb_len]; exact h
  rw [List.take_succ_eq_append_getElem hk]
  congr 2
  have := wb_get h
  simpa [List.getD_eq_getElem?_getD, hk] using this.symm
theorem word_small {ls : List Int} {all : Int} (hV : Vl ls) (hW : wholeB (cntL ls) all = true) {s : Int} (hb : lkB ls s = true) : 0 ≤ lkW ls s ∧ lkW ls s < 32768 ∧ 1 ≤ lkN ls s ∧ lkN ls s ≤ 15 := by
  by_cases h0 : 0 ≤ s ∧ s < ls.length
  · have hp : 0 < ls.getD s.toNat 0 := by rw [(pf_ok hV h0.1 h0.2).1, decide_eq_true_eq] at hb; exact hb
    obtain ⟨L, r, hs⟩ := sym_of hV h0.1 h0.2 (by omega)
    have w1 := word_lt hW hs.one hs.top hs.lt
    have b1 := base_nn ls L
    have p1 := pow_15 hs.top
    have i1 := hs.one
    have i2 := hs.top
    rw [hs.w, hs.n]
    omega
  · rw [(lk_none (x := s) (by omega)).2.2] at hb; cases hb
theorem lkN_le {ls : List Int} (hV : Vl ls) (s : Int) : 0 ≤ lkN ls s ∧ lkN ls s ≤ 15 := by
  by_cases h0 : 0 ≤ s ∧ s < ls.length
  · rw [(pf_ok hV h0.1 h0.2).2]
    have hlt : s.toNat < ls.length := by omega
    exact hV.2 _ (by simp [List.getD_eq_getElem?_getD, hlt])
  · rw [(lk_none (ls := ls) (x := s) (by omega)).2.1]; omega
theorem bits_len {ls : List Int} (hV : Vl ls) : ∀ l : List Int, (bits ls l).length ≤ 15 * l.length
  | [] => by simp [bits]
  | s :: l => by
    have := bits_len hV l
    have h2 := lkN_le hV s
    have h3 := wb_len ls s
    simp only [bits, List.flatMap_cons, List.length_append, List.length_cons] at this ⊢
    omega
end Go.HuffP
namespace Go.BitP
/-- The lowest bits of a number, the lowest first. -/
def lowB (x : Int) (n : Nat) : List Int := (List.range n).map (fun i => x / 2 ^ i % 2)
theorem lowB_zero (x : Int) : lowB x 0 = [] := rfl
theorem lowB_snoc (x : Int) (n : Nat) : lowB x n ++ [x / 2 ^ n % 2] = lowB x (n + 1) := by simp [lowB, List.range_succ]
theorem lowB_len (x : Int) (n : Nat) : (lowB x n).length = n := by simp [lowB]
theorem lowB_one (x : Int) : lowB x 1 = [x % 2] := by simp [lowB]
theorem shrI {x : Int} {k : Nat} (hk : k ≤ 60) {d : Int} (hd : d = (k : Int)) : x.fdiv (2 ^ (min d.toNat IntKind.i64.bits)) = x / 2 ^ k := by
  have e : min d.toNat IntKind.i64.bits = k := by
    have : IntKind.i64.bits = 64 := rfl
    omega
  rw [e, Int.fdiv_eq_ediv_of_nonneg _ (Int.le_of_lt (Int.pow_pos (by decide)))]
theorem div_nn {x : Int} (h0 : 0 ≤ x) (k : Nat) : 0 ≤ x / 2 ^ k ∧ x / 2 ^ k ≤ x := ⟨Int.ediv_nonneg h0 (Int.le_of_lt (Int.pow_pos (by decide))), Int.ediv_le_self _ h0⟩
end Go.BitP
