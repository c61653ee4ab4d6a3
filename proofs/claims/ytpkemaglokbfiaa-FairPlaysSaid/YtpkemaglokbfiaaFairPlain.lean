/-
  The plain side of 'fair': members, their cells, what each call comes to.
-/
import Derived.Test.YtpkemaglokbfiaaSl10
namespace Go.FairP
open Go.Sl
set_option linter.unusedVariables false

structure Mb where
  who : Int
  q : Int
  c : Int
def enc (m : Mb) : List Value := [.int .i64 m.who, .int .i64 m.q, .int .i64 m.c]
theorem enc_len (m : Mb) : (enc m).length = 3 := rfl
theorem encs_len (l : List Mb) : (l.flatMap enc).length = l.length * 3 := by
  induction l with
  | nil => rfl
  | cons m l ih => simp [ih, enc_len, Nat.add_mul]; omega
theorem encs_get {l : List Mb} {i : Nat} (h : i < l.length) {f : Nat} {v : Value} (hf : (enc l[i])[f]? = some v) : (l.flatMap enc)[i * 3 + f]? = some v := by
  induction l generalizing i with
  | nil => simp at h
  | cons m l ih =>
    cases i with
    | zero =>
      simp only [List.flatMap_cons, Nat.zero_mul, Nat.zero_add]
      simp only [List.getElem_cons_zero] at hf
      have := (List.getElem?_eq_some_iff.1 hf).1
      rw [List.getElem?_append_left this]; exact hf
    | succ i =>
      simp only [List.flatMap_cons]
      simp only [List.getElem_cons_succ] at hf
      rw [List.getElem?_append_right (by rw [enc_len]; omega), enc_len, show (i + 1) * 3 + f - 3 = i * 3 + f by omega]
      exact ih (by simpa using h) hf
theorem encs_row {l : List Mb} {i : Nat} (h : i < l.length) : ((l.flatMap enc).drop (i * 3)).take 3 = enc l[i] := by
  induction l generalizing i with
  | nil => simp at h
  | cons m l ih =>
    cases i with
    | zero => simp [enc]
    | succ i =>
      simp only [List.flatMap_cons, List.getElem_cons_succ]
      rw [show (i + 1) * 3 = 3 + i * 3 by omega, ← List.drop_drop]
      rw [List.drop_append_of_le_length (by simp [enc_len])]
      simp only [enc, List.drop_succ_cons, List.drop_zero, List.nil_append]
      exact ih (by simpa using h)
/-- The place of somebody, -1 where it is not in. -/
def idx (l : List Mb) (p : Mb → Bool) : Int := match l.findIdx? p with | some i => i | none => -1
theorem idx_no {l : List Mb} {p : Mb → Bool} (h : ∀ j (hj : j < l.length), p l[j] = false) : idx l p = -1 := by
  unfold idx
  rw [List.findIdx?_eq_none_iff.2]
  intro x hx
  obtain ⟨j, hj, rfl⟩ := List.getElem_of_mem hx
  exact h j hj
theorem idx_yes {l : List Mb} {p : Mb → Bool} {k : Nat} (hk : k < l.length) (hp : p l[k] = true) (h : ∀ j (hj : j < k), p (l[j]'(by omega)) = false) : idx l p = k := by
  unfold idx
  have : l.findIdx? p = some k := by
    rw [List.findIdx?_eq_some_iff_getElem]
    exact ⟨hk, hp, fun j hj => by simp [h j hj]⟩
  rw [this]
/-- The object: a block with the slice, the slice's row. -/
def IsFair (b : Nat) (l : List Mb) : HProp := fun w0 h => ∃ i : Option Addr × Nat, True ∧ sats w0 [Cel b 55 [.slice i.1 l.length i.2], Sl i.1 l.length i.2 57 3 (l.flatMap enc)] h
theorem fair_close {b n c : Nat} {p : Option Addr} {l : List Mb} {w0 : World} {h : Hp} (hn : n = l.length) (hh : sats w0 [Cel b 55 [.slice p n c], Sl p n c 57 3 (l.flatMap enc)] h) : IsFair b l w0 h := by subst hn; exact ⟨(p, c), trivial, hh⟩
theorem fair_close' {b n c : Nat} {p : Option Addr} {l : List Mb} {vs : List Value} {w0 : World} {h : Hp} (hn : n = l.length) (hr : vs = l.flatMap enc) (hh : sats w0 [Cel b 55 [.slice p n c], Sl p n c 57 3 vs] h) : IsFair b l w0 h := by subst hn; subst hr; exact ⟨(p, c), trivial, hh⟩
def zero (m : Mb) : Mb := { m with c := 0 }
theorem turn_row (m : Mb) (r : List Mb) : (((m :: r).flatMap enc).drop (1 * 3)).take ((r.length + 1 - 1) * 3) ++ [.int .i64 m.who, .int .i64 m.q, .int .i64 0] = (r ++ [zero m]).flatMap enc := by
  have h := encs_len r
  simp only [List.flatMap_cons, List.flatMap_append, List.flatMap_nil, List.append_nil]
  rw [List.drop_append_of_le_length (by simp [enc_len])]
  simp only [enc, List.drop_succ_cons, List.drop_zero, List.nil_append, Nat.one_mul, Nat.add_sub_cancel]
  rw [List.take_of_length_le (by have := encs_len r; unfold enc at this; omega)]
  rfl
def fturn : List Mb → List Mb
  | [] => []
  | m :: r => r ++ [zero m]
theorem encs_one (l : List Mb) : (l.flatMap enc).all Value.oneCell' = true := by
  induction l with
  | nil => rfl
  | cons m l ih => simp only [List.flatMap_cons, List.all_append, ih, Bool.and_true]; rfl
theorem encs_take (l : List Mb) (i : Nat) : (l.flatMap enc).take (i * 3) = (l.take i).flatMap enc := by
  induction l generalizing i with
  | nil => simp
  | cons m l ih =>
    cases i with
    | zero => simp
    | succ i =>
      simp only [List.flatMap_cons, List.take_succ_cons]
      rw [← ih i, List.take_append, enc_len, List.take_of_length_le (by rw [enc_len]; omega), show (i + 1) * 3 - 3 = i * 3 by omega]
theorem encs_drop (l : List Mb) (i : Nat) : (l.flatMap enc).drop (i * 3) = (l.drop i).flatMap enc := by
  induction l generalizing i with
  | nil => simp
  | cons m l ih =>
    cases i with
    | zero => simp
    | succ i =>
      simp only [List.flatMap_cons, List.drop_succ_cons]
      rw [← ih i, List.drop_append, enc_len, List.drop_of_length_le (by rw [enc_len]; omega), show (i + 1) * 3 - 3 = i * 3 by omega, List.nil_append]
theorem encs_erase (l : List Mb) (i : Nat) : (l.flatMap enc).take (i * 3) ++ (l.flatMap enc).drop ((i + 1) * 3) = (l.eraseIdx i).flatMap enc := by
  rw [encs_take, encs_drop, List.eraseIdx_eq_take_drop_succ, List.flatMap_append]
theorem encs_set {l : List Mb} {i : Nat} (h : i < l.length) (m : Mb) {f : Nat} {u : Value} (hf : (enc l[i]).set f u = enc m) (hlt : f < 3) : (l.flatMap enc).set (i * 3 + f) u = (l.set i m).flatMap enc := by
  induction l generalizing i with
  | nil => simp at h
  | cons x l ih =>
    cases i with
    | zero =>
      simp only [List.flatMap_cons, Nat.zero_mul, Nat.zero_add, List.set_cons_zero]
      simp only [List.getElem_cons_zero] at hf
      rw [List.set_append_left _ _ (by rw [enc_len]; exact hlt), hf]
    | succ i =>
      simp only [List.flatMap_cons, List.set_cons_succ]
      simp only [List.getElem_cons_succ] at hf
      rw [List.set_append_right _ _ (by rw [enc_len]; omega), enc_len, show (i + 1) * 3 + f - 3 = i * 3 + f by omega, ih (by simpa using h) hf]
theorem idx_some {l : List Mb} {p : Mb → Bool} {i : Nat} (h : l.findIdx? p = some i) : idx l p = i := by unfold idx; rw [h]
theorem idx_none {l : List Mb} {p : Mb → Bool} (h : l.findIdx? p = none) : idx l p = -1 := by unfold idx; rw [h]
theorem findIdx_lt {l : List Mb} {p : Mb → Bool} {i : Nat} (h : l.findIdx? p = some i) : i < l.length := by
  rw [List.findIdx?_eq_some_iff_getElem] at h
  exact h.1
/-- A weight that is one: its quantum. -/
def leastB : Nat := 4589168020290535424
def mostB : Nat := 4634204016564240384
def sixteen : Nat := 4625196817309499392
structure Fq (x : Nat) (q : Int) : Prop where
  nn : FloatKind.f64.format.order x x = some .eq
  lo : (FloatKind.f64.format.order x leastB == some .lt) = false
  hi : (FloatKind.f64.format.order x mostB == some .gt) = false
  val : ∃ r, FloatKind.f64.format.mul x sixteen = some r ∧ (FloatKind.f64.decode r).toInt .zero = some q
  q1 : 1 ≤ q
  q2 : q ≤ 1024
def fqB (x : Nat) (q : Int) : Bool := FloatKind.f64.format.order x x == some .eq && !(FloatKind.f64.format.order x leastB == some .lt) && !(FloatKind.f64.format.order x mostB == some .gt) &&
  (match FloatKind.f64.format.mul x sixteen with | some r => (FloatKind.f64.decode r).toInt .zero == some q | none => false) && decide (1 ≤ q) && decide (q ≤ 1024)
theorem fq_of {x : Nat} {q : Int} (h : fqB x q = true) : Fq x q := by
  unfold fqB at h
  simp only [Bool.and_eq_true, Bool.not_eq_true', beq_iff_eq, decide_eq_true_eq] at h
  obtain ⟨⟨⟨⟨⟨h1, h2⟩, h3⟩, h4⟩, h5⟩, h6⟩ := h
  refine ⟨h1, h2, h3, ?_, h5, h6⟩
  cases hm : FloatKind.f64.format.mul x sixteen with
  | none => rw [hm] at h4; cases h4
  | some r => rw [hm] at h4; exact ⟨r, rfl, by simpa using h4⟩
/-- Does it want anything? -/
def wantB (ws : List Bool) (m : Mb) : Bool := match ws[m.who.toNat]? with | some b => b | none => false
/-- Who it is. -/
def isWho (who : Int) (m : Mb) : Bool := decide (m.who = who)
end Go.FairP
